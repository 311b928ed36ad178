/- The walk of PageBig (written by genbig.py). -/
import Derived.Test.YtfoocpcpljlndaaAwakeB
import Derived.Test.YtfoocpcpljlndaaNumW
namespace Go.Proofs.Ytfoocpcpljlndaa.Duo
open Go Go.RowKit Go.Proofs.Ytfoocpcpljlndaa.Step Go.Proofs.Ytfoocpcpljlndaa.Mem Go.Proofs.Ytfoocpcpljlndaa.Tab
set_option linter.unusedVariables false
set_option linter.unusedSimpArgs false
set_option maxRecDepth 100000

theorem leaf_lo {n : Int} (h : 0 ≤ n) : lo (n * 1024 + 223) = 223 := by unfold lo; omega
theorem leaf_ok {n : Int} (h : 0 ≤ n ∧ n < 1048576) : wrongB (n * 1024 + 223) = false ∧ ptr (n * 1024 + 223) = false ∧ pn (n * 1024 + 223) = n ∧ lets2 (n * 1024 + 223) 2 = true ∧ perm (n * 1024 + 223) = 14 := by
  have hl := leaf_lo h.1
  have b : ∀ i, bt (n * 1024 + 223) i = (223 : Nat).testBit i := fun i => by unfold bt; rw [hl]
  refine ⟨?_, ?_, ?_, ?_, ?_⟩
  · unfold wrongB; rw [b, b, b, decide_eq_false (by omega)]; rfl
  · unfold ptr; rw [b, b]; rfl
  · unfold pn; omega
  · unfold lets2; rw [b, b, b, b, b, b]; rfl
  · unfold perm; rw [b, b, b, b]; rfl
theorem big2 {n i o : Int} (hn : 0 ≤ n ∧ n < 1048576) (hi : 0 ≤ i ∧ i < 512) (ho : 0 ≤ o ∧ o < 1073741824) :
    guest 0 4 (cm 4 (fun _ => (512 + i, n * 1024 + 223)) 1) 1 (i * 1073741824 + o) 2 = if n % 262144 ≠ 0 then (0, 0, 2) else (n * 4096 + o, 14, 0) := by
  obtain ⟨h1, h2, h3, h4, h5⟩ := leaf_ok hn
  have hix : ix (i * 1073741824 + o) 2 = i := by unfold ix; show (i * 1073741824 + o) / 1073741824 % 512 = i; omega
  have hm : cm 4 (fun _ => (512 + i, n * 1024 + 223)) 1 = wr (fun _ => 0) (8 * (512 + i).toNat) 8 (n * 1024 + 223) := at_cell (f := fun _ => (512 + i, n * 1024 + 223)) (k := 0) (j := (512 + i).toNat) (by show 512 + i = _; omega) rfl (by omega)
  have hp : phys 0 4 (cm 4 (fun _ => (512 + i, n * 1024 + 223)) 1) 1 (ix (i * 1073741824 + o) 2) = (n * 1024 + 223, 0) := by
    rw [hix, phys_cell (by decide) hi (by decide), hm, show (1 * 4096 + 8 * i).toNat = 8 * (512 + i).toNat by omega, num_same ⟨by omega, by omega⟩]
  unfold guest
  rw [if_neg (by decide), if_neg (by omega), down_step hp, if_neg (by rw [h1]; decide), if_neg (by rw [h2]; decide)]
  have ho2 : odd (n * 1024 + 223) 2 = decide (n % 262144 ≠ 0) := by unfold odd; rw [h3]; rfl
  by_cases hz : n % 262144 ≠ 0
  · rw [ho2, if_pos (decide_eq_true hz), if_pos hz]; rfl
  · rw [ho2, if_neg (by simpa using hz), if_neg hz]
    show (if lets2 (n * 1024 + 223) 2 = true then (at_ (n * 1024 + 223) 2 (i * 1073741824 + o), perm (n * 1024 + 223), (0 : Int)) else (0, 0, 2)) = _
    rw [if_pos h4, h5]
    unfold at_
    rw [h3]
    show (n * 4096 + (i * 1073741824 + o) % 1073741824, (14 : Int), (0 : Int)) = _
    rw [show (i * 1073741824 + o) % 1073741824 = o by omega]
def bf (i n : Int) : Nat → Int × Int := fun j => if j = 0 then (512, 2049) else (1024 + i, n * 1024 + 223)
theorem big1 {n i o : Int} (hn : 0 ≤ n ∧ n < 1048576) (hi : 0 ≤ i ∧ i < 512) (ho : 0 ≤ o ∧ o < 2097152) :
    guest 0 4 (cm 4 (bf i n) 2) 1 (i * 2097152 + o) 2 = if n % 512 ≠ 0 then (0, 0, 2) else (n * 4096 + o, 14, 0) := by
  obtain ⟨h1, h2, h3, h4, h5⟩ := leaf_ok hn
  have hx2 : ix (i * 2097152 + o) 2 = 0 := by unfold ix; show (i * 2097152 + o) / 1073741824 % 512 = 0; omega
  have hx1 : ix (i * 2097152 + o) 1 = i := by unfold ix; show (i * 2097152 + o) / 2097152 % 512 = i; omega
  have hm1 : cm 4 (bf i n) 1 = wr (fun _ => 0) (8 * 512) 8 2049 := at_cell (f := bf i n) (k := 0) (j := 512) rfl rfl (by decide)
  have hm2 : cm 4 (bf i n) 2 = wr (cm 4 (bf i n) 1) (8 * (1024 + i).toNat) 8 (n * 1024 + 223) := at_cell (f := bf i n) (k := 1) (j := (1024 + i).toNat) (by show 1024 + i = _; omega) rfl (by omega)
  have hp1 : phys 0 4 (cm 4 (bf i n) 2) 1 (ix (i * 2097152 + o) 2) = (2049, 0) := by
    rw [hx2, phys_cell (by decide) (by decide) (by decide), hm2, num_far (by show 4096 + 8 ≤ 8 * (1024 + i).toNat ∨ _; omega), hm1]
    rw [show ((1 : Int) * 4096 + 8 * 0).toNat = 8 * 512 from rfl, num_same ⟨by decide, by decide⟩]
  have hp2 : phys 0 4 (cm 4 (bf i n) 2) 2 (ix (i * 2097152 + o) 1) = (n * 1024 + 223, 0) := by
    rw [hx1, phys_cell (by decide) hi (by decide), hm2, show (2 * 4096 + 8 * i).toNat = 8 * (1024 + i).toNat by omega, num_same ⟨by omega, by omega⟩]
  unfold guest
  rw [if_neg (by decide), if_neg (by omega), down_step hp1, if_neg (by decide), if_pos (by decide), show pn 2049 = 2 from rfl, down_step hp2, if_neg (by rw [h1]; decide), if_neg (by rw [h2]; decide)]
  have ho2 : odd (n * 1024 + 223) 1 = decide (n % 512 ≠ 0) := by unfold odd; rw [h3]; rfl
  by_cases hz : n % 512 ≠ 0
  · rw [ho2, if_pos (decide_eq_true hz), if_pos hz]; rfl
  · rw [ho2, if_neg (by simpa using hz), if_neg hz]
    show (if lets2 (n * 1024 + 223) 2 = true then (at_ (n * 1024 + 223) 1 (i * 2097152 + o), perm (n * 1024 + 223), (0 : Int)) else (0, 0, 2)) = _
    rw [if_pos h4, h5]
    unfold at_
    rw [h3]
    show (n * 4096 + (i * 2097152 + o) % 2097152, (14 : Int), (0 : Int)) = _
    rw [show (i * 2097152 + o) % 2097152 = o by omega]
theorem guest_is {W : World} {h n : Nat} {base : Int} {mem : Nat → Int} {F : Nat → Prop} (r : Ram W h base n mem F) (root gpa a : Int) (hroot : U64 root) (hg : U64 gpa) {x p q : Int} (e : guest base n mem root gpa a = (x, p, q)) :
    Calls Try.prog 12 #[.pointer (some ⟨h, 0, none⟩), .int .u64 root, .int .u64 gpa, .int .i64 a] W fun e W' => e = .returned (.tuple #[.int .u64 x, .int .i64 p, .int .i64 q]) ∧ Below W.heap.size W W' :=
  (guest_any r root gpa a hroot hg).mono fun e' W' h => ⟨by rw [h.1, e], h.2⟩

theorem cells_1 (n i : Int) (hn : 0 ≤ n ∧ n < 1048576) (hi : 0 ≤ i ∧ i < 512) : ∀ j, j < 2 → (#[.int .i64 512, .int .u64 2049, .int .i64 (1024 + i), .int .u64 (n * 1024 + 223)] : Array Value)[j * 2]? = some (.int .i64 ((bf i n) j).1) ∧ (#[.int .i64 512, .int .u64 2049, .int .i64 (1024 + i), .int .u64 (n * 1024 + 223)] : Array Value)[j * 2 + 1]? = some (.int .u64 ((bf i n) j).2) ∧ (-9223372036854775808 ≤ ((bf i n) j).1 ∧ ((bf i n) j).1 < 9223372036854775808) ∧ (0 ≤ ((bf i n) j).2 ∧ ((bf i n) j).2 < 18446744073709551616) := by
  intro j hj
  obtain e | e : j = 0 ∨ j = 1 := by omega
  · subst e; exact ⟨rfl, rfl, by show (-9223372036854775808 : Int) ≤ 512 ∧ (512 : Int) < 9223372036854775808; decide, by show (0 : Int) ≤ 2049 ∧ (2049 : Int) < 18446744073709551616; decide⟩
  · subst e; exact ⟨rfl, rfl, by show -9223372036854775808 ≤ 1024 + i ∧ 1024 + i < 9223372036854775808; omega, by show 0 ≤ n * 1024 + 223 ∧ n * 1024 + 223 < 18446744073709551616; omega⟩

set_option maxHeartbeats 4000000 in
theorem big_10 (level number off slot n i o : Int) (W : World) (hl : -9223372036854775808 ≤ level ∧ level < 9223372036854775808) (hk : level % 2 = 0) (hnu : U64 number) (hof : U64 off) (hsl : U64 slot) (en : number % 1048576 = n) (ei : slot % 512 = i) (eo : off % 2097152 = o) (hz : n % 512 = 0) :
    Calls Try.prog 4 #[.int .i64 level, .int .u64 number, .int .u64 off, .int .u64 slot] W fun e w' => e = .returned (.bool true) ∧ Below W.heap.size W w' := by
  have hn : 0 ≤ n ∧ n < 1048576 := by omega
  have hi : 0 ≤ i ∧ i < 512 := by omega
  have ho : 0 ≤ o ∧ o < 2097152 := by omega
  have en' : number.tmod 1048576 = n := by rw [Int.tmod_eq_emod_of_nonneg hnu.1]; exact en
  have ei' : slot.tmod 512 = i := by rw [Int.tmod_eq_emod_of_nonneg hsl.1]; exact ei
  have eo' : off.tmod 2097152 = o := by rw [Int.tmod_eq_emod_of_nonneg hof.1]; exact eo
  have TP := Lib.hid (fun w => (place_any level 2 (by decide) hl (by decide) w).mono fun e w' h => (by rw [hk] at h; exact h : e = .returned (.int .i64 0) ∧ w = w'))
  have a1 : IntKind.u64.wrap (n * 1024) = n * 1024 := IntWalk.u64_in _ (by omega)
  have a2 : bits .or .u64 (n * 1024) 223 = n * 1024 + 223 := or_add 10 ⟨by omega, by omega⟩ (by show n * 1024 % 1024 = 0; omega) (by show (0 : Int) ≤ 223 ∧ (223 : Int) < 1024; decide) (by decide)
  have a3 : wrap64 i = i := by unfold wrap64; omega
  have a4 : wrap64 (1024 + i) = 1024 + i := by unfold wrap64; omega
  have a5 : IntKind.u64.wrap (i * 2097152) = i * 2097152 := IntWalk.u64_in _ (by omega)
  have a6 : IntKind.u64.wrap (i * 2097152 + o) = i * 2097152 + o := IntWalk.u64_in _ (by omega)
  have a7 : IntKind.u64.wrap (n * 4096) = n * 4096 := IntWalk.u64_in _ (by omega)
  have a8 : IntKind.u64.wrap (n * 4096 + o) = n * 4096 + o := IntWalk.u64_in _ (by omega)
  have b3 : IntKind.i64.wrap i = i := IntWalk.i64_in _ (by omega)
  have b4 : IntKind.i64.wrap (1024 + i) = 1024 + i := IntWalk.i64_in _ (by omega)
  have m1 : (n % 512 != 0) = false := by simpa using hz
  have m2 : (n.tmod 512 != 0) = false := by rw [Int.tmod_eq_emod_of_nonneg hn.1]; exact m1
  have CE := Lib.hid (cells_1 n i hn hi)
  have GE := Lib.hid (show guest 0 4 (cm 4 (bf i n) 2) 1 (i * 2097152 + o) 2 = (n * 4096 + o, 14, 0) from by rw [big1 hn hi ho]; exact if_neg (fun h => h hz))
  have GU := Lib.hid (show U64 (i * 2097152 + o) from ⟨by omega, by omega⟩)
  have AW := Lib.hid awake_any
  have hu := Try.underlying31
  have hu2 := Try.underlying41
  clear hl hk hnu hof hsl hz
  go_enter Try.func4, Try.ntmps4
  go_wp2_with (first
    | (go_at_call 14; refine (TP.out _).mono ?_; rintro e w1 ⟨rfl, rfl⟩)
    | ((with_reducible refine Step.gate_build (t := 22) rfl ?_); refine Step.freshSlice (cs := #[.int .i64 512, .int .u64 2049, .int .i64 (1024 + i), .int .u64 (n * 1024 + 223)]) (T := 41) (n := 2) (m := 2) rfl ?hr ?_; (case hr => first | (go_simp; done) | (go_simp; rfl)); intro g1 w1 b hg hb; have RC := Lib.hid (rd_cells (n := 2) (c := 2) (f := (bf i n)) b CE.out); have HB1 := Lib.hid hb; clear b hg hb)
    | (go_at_call 15; refine (memory_any _ 0 4 4 rfl (by omega) (by decide) (some ⟨g1, 0, none⟩) 2 2 (bf i n) RC.out (by decide)).mono ?_; rintro e w3 ⟨h1, h2, F1, F2, rfl, d⟩; have D := Lib.hid d; clear d)
    | ((with_reducible refine Step.gate_alloc (t := 31) rfl ?_); refine Step.freshAlloc rfl rfl (alloc_agg zero_two) ?_; intro g2 w4 b hg hb; have B2 := Lib.hid b; have D2 := Lib.hid (D.out.below hb); have HG2 := Lib.hid (show ∀ k, F1 k ∨ F2 k → k ≠ g2 from fun k h e => by subst e; have := D.out.bound k h; omega); have HN2 := Lib.hid (show w1.heap.size ≤ g2 from Nat.le_trans D.out.mod.size hg); clear b hg hb)
    | ((with_reducible refine Step.gate_store (t := 31) rfl ?_); refine Step.storeAll (vs := #[.pointer (some ⟨h1, 0, none⟩), .pointer (some ⟨h2, 0, none⟩)]) B2.out rfl rfl rfl rfl rfl size_two rfl rfl ?_; intro w5 nb m; have c0 := nb.cell 0; have D3 := Lib.hid (D2.out.other m (fun k h e => HG2.out k h e) (fun k e => by obtain rfl : k = g2 := e; exact HN2.out)); simp only [List.getElem?_toArray, List.getElem?_cons_zero] at c0; clear nb m)
    | (go_at_call 12; have GA := Lib.hid (guest_is D3.out.one 1 (i * 2097152 + o) 2 ⟨by decide, by decide⟩ GU.out GE.out); refine (GA.out).mono ?_; rintro e w6 ⟨rfl, hb⟩; have D6 := Lib.hid (D3.out.below hb); clear hb GA)
    | (go_at_call 13; refine (AW.out _).mono ?_; rintro e w7 ⟨rfl, hb⟩; have D7 := Lib.hid (D6.out.below hb); clear hb))
  go_ret
  exact ⟨rfl, HB1.out.trans (D7.out.out.mono HB1.out.size)⟩

set_option maxHeartbeats 4000000 in
theorem big_11 (level number off slot n i o : Int) (W : World) (hl : -9223372036854775808 ≤ level ∧ level < 9223372036854775808) (hk : level % 2 = 0) (hnu : U64 number) (hof : U64 off) (hsl : U64 slot) (en : number % 1048576 = n) (ei : slot % 512 = i) (eo : off % 2097152 = o) (hz : n % 512 ≠ 0) :
    Calls Try.prog 4 #[.int .i64 level, .int .u64 number, .int .u64 off, .int .u64 slot] W fun e w' => e = .returned (.bool true) ∧ Below W.heap.size W w' := by
  have hn : 0 ≤ n ∧ n < 1048576 := by omega
  have hi : 0 ≤ i ∧ i < 512 := by omega
  have ho : 0 ≤ o ∧ o < 2097152 := by omega
  have en' : number.tmod 1048576 = n := by rw [Int.tmod_eq_emod_of_nonneg hnu.1]; exact en
  have ei' : slot.tmod 512 = i := by rw [Int.tmod_eq_emod_of_nonneg hsl.1]; exact ei
  have eo' : off.tmod 2097152 = o := by rw [Int.tmod_eq_emod_of_nonneg hof.1]; exact eo
  have TP := Lib.hid (fun w => (place_any level 2 (by decide) hl (by decide) w).mono fun e w' h => (by rw [hk] at h; exact h : e = .returned (.int .i64 0) ∧ w = w'))
  have a1 : IntKind.u64.wrap (n * 1024) = n * 1024 := IntWalk.u64_in _ (by omega)
  have a2 : bits .or .u64 (n * 1024) 223 = n * 1024 + 223 := or_add 10 ⟨by omega, by omega⟩ (by show n * 1024 % 1024 = 0; omega) (by show (0 : Int) ≤ 223 ∧ (223 : Int) < 1024; decide) (by decide)
  have a3 : wrap64 i = i := by unfold wrap64; omega
  have a4 : wrap64 (1024 + i) = 1024 + i := by unfold wrap64; omega
  have a5 : IntKind.u64.wrap (i * 2097152) = i * 2097152 := IntWalk.u64_in _ (by omega)
  have a6 : IntKind.u64.wrap (i * 2097152 + o) = i * 2097152 + o := IntWalk.u64_in _ (by omega)
  have a7 : IntKind.u64.wrap (n * 4096) = n * 4096 := IntWalk.u64_in _ (by omega)
  have a8 : IntKind.u64.wrap (n * 4096 + o) = n * 4096 + o := IntWalk.u64_in _ (by omega)
  have b3 : IntKind.i64.wrap i = i := IntWalk.i64_in _ (by omega)
  have b4 : IntKind.i64.wrap (1024 + i) = 1024 + i := IntWalk.i64_in _ (by omega)
  have m1 : (n % 512 != 0) = true := by simpa using hz
  have m2 : (n.tmod 512 != 0) = true := by rw [Int.tmod_eq_emod_of_nonneg hn.1]; exact m1
  have CE := Lib.hid (cells_1 n i hn hi)
  have GE := Lib.hid (show guest 0 4 (cm 4 (bf i n) 2) 1 (i * 2097152 + o) 2 = (0, 0, 2) from by rw [big1 hn hi ho]; exact if_pos hz)
  have GU := Lib.hid (show U64 (i * 2097152 + o) from ⟨by omega, by omega⟩)
  have AW := Lib.hid awake_any
  have hu := Try.underlying31
  have hu2 := Try.underlying41
  clear hl hk hnu hof hsl hz
  go_enter Try.func4, Try.ntmps4
  go_wp2_with (first
    | (go_at_call 14; refine (TP.out _).mono ?_; rintro e w1 ⟨rfl, rfl⟩)
    | ((with_reducible refine Step.gate_build (t := 22) rfl ?_); refine Step.freshSlice (cs := #[.int .i64 512, .int .u64 2049, .int .i64 (1024 + i), .int .u64 (n * 1024 + 223)]) (T := 41) (n := 2) (m := 2) rfl ?hr ?_; (case hr => first | (go_simp; done) | (go_simp; rfl)); intro g1 w1 b hg hb; have RC := Lib.hid (rd_cells (n := 2) (c := 2) (f := (bf i n)) b CE.out); have HB1 := Lib.hid hb; clear b hg hb)
    | (go_at_call 15; refine (memory_any _ 0 4 4 rfl (by omega) (by decide) (some ⟨g1, 0, none⟩) 2 2 (bf i n) RC.out (by decide)).mono ?_; rintro e w3 ⟨h1, h2, F1, F2, rfl, d⟩; have D := Lib.hid d; clear d)
    | ((with_reducible refine Step.gate_alloc (t := 31) rfl ?_); refine Step.freshAlloc rfl rfl (alloc_agg zero_two) ?_; intro g2 w4 b hg hb; have B2 := Lib.hid b; have D2 := Lib.hid (D.out.below hb); have HG2 := Lib.hid (show ∀ k, F1 k ∨ F2 k → k ≠ g2 from fun k h e => by subst e; have := D.out.bound k h; omega); have HN2 := Lib.hid (show w1.heap.size ≤ g2 from Nat.le_trans D.out.mod.size hg); clear b hg hb)
    | ((with_reducible refine Step.gate_store (t := 31) rfl ?_); refine Step.storeAll (vs := #[.pointer (some ⟨h1, 0, none⟩), .pointer (some ⟨h2, 0, none⟩)]) B2.out rfl rfl rfl rfl rfl size_two rfl rfl ?_; intro w5 nb m; have c0 := nb.cell 0; have D3 := Lib.hid (D2.out.other m (fun k h e => HG2.out k h e) (fun k e => by obtain rfl : k = g2 := e; exact HN2.out)); simp only [List.getElem?_toArray, List.getElem?_cons_zero] at c0; clear nb m)
    | (go_at_call 12; have GA := Lib.hid (guest_is D3.out.one 1 (i * 2097152 + o) 2 ⟨by decide, by decide⟩ GU.out GE.out); refine (GA.out).mono ?_; rintro e w6 ⟨rfl, hb⟩; have D6 := Lib.hid (D3.out.below hb); clear hb GA)
    | (go_at_call 13; refine (AW.out _).mono ?_; rintro e w7 ⟨rfl, hb⟩; have D7 := Lib.hid (D6.out.below hb); clear hb))
  go_ret
  exact ⟨rfl, HB1.out.trans (D7.out.out.mono HB1.out.size)⟩

theorem cells_2 (n i : Int) (hn : 0 ≤ n ∧ n < 1048576) (hi : 0 ≤ i ∧ i < 512) : ∀ j, j < 1 → (#[.int .i64 (512 + i), .int .u64 (n * 1024 + 223)] : Array Value)[j * 2]? = some (.int .i64 ((fun _ => (512 + i, n * 1024 + 223)) j).1) ∧ (#[.int .i64 (512 + i), .int .u64 (n * 1024 + 223)] : Array Value)[j * 2 + 1]? = some (.int .u64 ((fun _ => (512 + i, n * 1024 + 223)) j).2) ∧ (-9223372036854775808 ≤ ((fun _ => (512 + i, n * 1024 + 223)) j).1 ∧ ((fun _ => (512 + i, n * 1024 + 223)) j).1 < 9223372036854775808) ∧ (0 ≤ ((fun _ => (512 + i, n * 1024 + 223)) j).2 ∧ ((fun _ => (512 + i, n * 1024 + 223)) j).2 < 18446744073709551616) := by
  intro j hj
  obtain rfl : j = 0 := by omega
  exact ⟨rfl, rfl, by show -9223372036854775808 ≤ 512 + i ∧ 512 + i < 9223372036854775808; omega, by show 0 ≤ n * 1024 + 223 ∧ n * 1024 + 223 < 18446744073709551616; omega⟩

set_option maxHeartbeats 4000000 in
theorem big_20 (level number off slot n i o : Int) (W : World) (hl : -9223372036854775808 ≤ level ∧ level < 9223372036854775808) (hk : level % 2 = 1) (hnu : U64 number) (hof : U64 off) (hsl : U64 slot) (en : number % 1048576 = n) (ei : slot % 512 = i) (eo : off % 1073741824 = o) (hz : n % 262144 = 0) :
    Calls Try.prog 4 #[.int .i64 level, .int .u64 number, .int .u64 off, .int .u64 slot] W fun e w' => e = .returned (.bool true) ∧ Below W.heap.size W w' := by
  have hn : 0 ≤ n ∧ n < 1048576 := by omega
  have hi : 0 ≤ i ∧ i < 512 := by omega
  have ho : 0 ≤ o ∧ o < 1073741824 := by omega
  have en' : number.tmod 1048576 = n := by rw [Int.tmod_eq_emod_of_nonneg hnu.1]; exact en
  have ei' : slot.tmod 512 = i := by rw [Int.tmod_eq_emod_of_nonneg hsl.1]; exact ei
  have eo' : off.tmod 1073741824 = o := by rw [Int.tmod_eq_emod_of_nonneg hof.1]; exact eo
  have TP := Lib.hid (fun w => (place_any level 2 (by decide) hl (by decide) w).mono fun e w' h => (by rw [hk] at h; exact h : e = .returned (.int .i64 1) ∧ w = w'))
  have a1 : IntKind.u64.wrap (n * 1024) = n * 1024 := IntWalk.u64_in _ (by omega)
  have a2 : bits .or .u64 (n * 1024) 223 = n * 1024 + 223 := or_add 10 ⟨by omega, by omega⟩ (by show n * 1024 % 1024 = 0; omega) (by show (0 : Int) ≤ 223 ∧ (223 : Int) < 1024; decide) (by decide)
  have a3 : wrap64 i = i := by unfold wrap64; omega
  have a4 : wrap64 (512 + i) = 512 + i := by unfold wrap64; omega
  have a5 : IntKind.u64.wrap (i * 1073741824) = i * 1073741824 := IntWalk.u64_in _ (by omega)
  have a6 : IntKind.u64.wrap (i * 1073741824 + o) = i * 1073741824 + o := IntWalk.u64_in _ (by omega)
  have a7 : IntKind.u64.wrap (n * 4096) = n * 4096 := IntWalk.u64_in _ (by omega)
  have a8 : IntKind.u64.wrap (n * 4096 + o) = n * 4096 + o := IntWalk.u64_in _ (by omega)
  have b3 : IntKind.i64.wrap i = i := IntWalk.i64_in _ (by omega)
  have b4 : IntKind.i64.wrap (512 + i) = 512 + i := IntWalk.i64_in _ (by omega)
  have m1 : (n % 262144 != 0) = false := by simpa using hz
  have m2 : (n.tmod 262144 != 0) = false := by rw [Int.tmod_eq_emod_of_nonneg hn.1]; exact m1
  have CE := Lib.hid (cells_2 n i hn hi)
  have GE := Lib.hid (show guest 0 4 (cm 4 (fun _ => (512 + i, n * 1024 + 223)) 1) 1 (i * 1073741824 + o) 2 = (n * 4096 + o, 14, 0) from by rw [big2 hn hi ho]; exact if_neg (fun h => h hz))
  have GU := Lib.hid (show U64 (i * 1073741824 + o) from ⟨by omega, by omega⟩)
  have AW := Lib.hid awake_any
  have hu := Try.underlying31
  have hu2 := Try.underlying41
  clear hl hk hnu hof hsl hz
  go_enter Try.func4, Try.ntmps4
  go_wp2_with (first
    | (go_at_call 14; refine (TP.out _).mono ?_; rintro e w1 ⟨rfl, rfl⟩)
    | ((with_reducible refine Step.gate_build (t := 22) rfl ?_); refine Step.freshSlice (cs := #[.int .i64 (512 + i), .int .u64 (n * 1024 + 223)]) (T := 41) (n := 1) (m := 1) rfl ?hr ?_; (case hr => first | (go_simp; done) | (go_simp; rfl)); intro g1 w1 b hg hb; have RC := Lib.hid (rd_cells (n := 1) (c := 1) (f := (fun _ => (512 + i, n * 1024 + 223))) b CE.out); have HB1 := Lib.hid hb; clear b hg hb)
    | (go_at_call 15; refine (memory_any _ 0 4 4 rfl (by omega) (by decide) (some ⟨g1, 0, none⟩) 1 1 (fun _ => (512 + i, n * 1024 + 223)) RC.out (by decide)).mono ?_; rintro e w3 ⟨h1, h2, F1, F2, rfl, d⟩; have D := Lib.hid d; clear d)
    | ((with_reducible refine Step.gate_alloc (t := 31) rfl ?_); refine Step.freshAlloc rfl rfl (alloc_agg zero_two) ?_; intro g2 w4 b hg hb; have B2 := Lib.hid b; have D2 := Lib.hid (D.out.below hb); have HG2 := Lib.hid (show ∀ k, F1 k ∨ F2 k → k ≠ g2 from fun k h e => by subst e; have := D.out.bound k h; omega); have HN2 := Lib.hid (show w1.heap.size ≤ g2 from Nat.le_trans D.out.mod.size hg); clear b hg hb)
    | ((with_reducible refine Step.gate_store (t := 31) rfl ?_); refine Step.storeAll (vs := #[.pointer (some ⟨h1, 0, none⟩), .pointer (some ⟨h2, 0, none⟩)]) B2.out rfl rfl rfl rfl rfl size_two rfl rfl ?_; intro w5 nb m; have c0 := nb.cell 0; have D3 := Lib.hid (D2.out.other m (fun k h e => HG2.out k h e) (fun k e => by obtain rfl : k = g2 := e; exact HN2.out)); simp only [List.getElem?_toArray, List.getElem?_cons_zero] at c0; clear nb m)
    | (go_at_call 12; have GA := Lib.hid (guest_is D3.out.one 1 (i * 1073741824 + o) 2 ⟨by decide, by decide⟩ GU.out GE.out); refine (GA.out).mono ?_; rintro e w6 ⟨rfl, hb⟩; have D6 := Lib.hid (D3.out.below hb); clear hb GA)
    | (go_at_call 13; refine (AW.out _).mono ?_; rintro e w7 ⟨rfl, hb⟩; have D7 := Lib.hid (D6.out.below hb); clear hb))
  go_ret
  exact ⟨rfl, HB1.out.trans (D7.out.out.mono HB1.out.size)⟩

set_option maxHeartbeats 4000000 in
theorem big_21 (level number off slot n i o : Int) (W : World) (hl : -9223372036854775808 ≤ level ∧ level < 9223372036854775808) (hk : level % 2 = 1) (hnu : U64 number) (hof : U64 off) (hsl : U64 slot) (en : number % 1048576 = n) (ei : slot % 512 = i) (eo : off % 1073741824 = o) (hz : n % 262144 ≠ 0) :
    Calls Try.prog 4 #[.int .i64 level, .int .u64 number, .int .u64 off, .int .u64 slot] W fun e w' => e = .returned (.bool true) ∧ Below W.heap.size W w' := by
  have hn : 0 ≤ n ∧ n < 1048576 := by omega
  have hi : 0 ≤ i ∧ i < 512 := by omega
  have ho : 0 ≤ o ∧ o < 1073741824 := by omega
  have en' : number.tmod 1048576 = n := by rw [Int.tmod_eq_emod_of_nonneg hnu.1]; exact en
  have ei' : slot.tmod 512 = i := by rw [Int.tmod_eq_emod_of_nonneg hsl.1]; exact ei
  have eo' : off.tmod 1073741824 = o := by rw [Int.tmod_eq_emod_of_nonneg hof.1]; exact eo
  have TP := Lib.hid (fun w => (place_any level 2 (by decide) hl (by decide) w).mono fun e w' h => (by rw [hk] at h; exact h : e = .returned (.int .i64 1) ∧ w = w'))
  have a1 : IntKind.u64.wrap (n * 1024) = n * 1024 := IntWalk.u64_in _ (by omega)
  have a2 : bits .or .u64 (n * 1024) 223 = n * 1024 + 223 := or_add 10 ⟨by omega, by omega⟩ (by show n * 1024 % 1024 = 0; omega) (by show (0 : Int) ≤ 223 ∧ (223 : Int) < 1024; decide) (by decide)
  have a3 : wrap64 i = i := by unfold wrap64; omega
  have a4 : wrap64 (512 + i) = 512 + i := by unfold wrap64; omega
  have a5 : IntKind.u64.wrap (i * 1073741824) = i * 1073741824 := IntWalk.u64_in _ (by omega)
  have a6 : IntKind.u64.wrap (i * 1073741824 + o) = i * 1073741824 + o := IntWalk.u64_in _ (by omega)
  have a7 : IntKind.u64.wrap (n * 4096) = n * 4096 := IntWalk.u64_in _ (by omega)
  have a8 : IntKind.u64.wrap (n * 4096 + o) = n * 4096 + o := IntWalk.u64_in _ (by omega)
  have b3 : IntKind.i64.wrap i = i := IntWalk.i64_in _ (by omega)
  have b4 : IntKind.i64.wrap (512 + i) = 512 + i := IntWalk.i64_in _ (by omega)
  have m1 : (n % 262144 != 0) = true := by simpa using hz
  have m2 : (n.tmod 262144 != 0) = true := by rw [Int.tmod_eq_emod_of_nonneg hn.1]; exact m1
  have CE := Lib.hid (cells_2 n i hn hi)
  have GE := Lib.hid (show guest 0 4 (cm 4 (fun _ => (512 + i, n * 1024 + 223)) 1) 1 (i * 1073741824 + o) 2 = (0, 0, 2) from by rw [big2 hn hi ho]; exact if_pos hz)
  have GU := Lib.hid (show U64 (i * 1073741824 + o) from ⟨by omega, by omega⟩)
  have AW := Lib.hid awake_any
  have hu := Try.underlying31
  have hu2 := Try.underlying41
  clear hl hk hnu hof hsl hz
  go_enter Try.func4, Try.ntmps4
  go_wp2_with (first
    | (go_at_call 14; refine (TP.out _).mono ?_; rintro e w1 ⟨rfl, rfl⟩)
    | ((with_reducible refine Step.gate_build (t := 22) rfl ?_); refine Step.freshSlice (cs := #[.int .i64 (512 + i), .int .u64 (n * 1024 + 223)]) (T := 41) (n := 1) (m := 1) rfl ?hr ?_; (case hr => first | (go_simp; done) | (go_simp; rfl)); intro g1 w1 b hg hb; have RC := Lib.hid (rd_cells (n := 1) (c := 1) (f := (fun _ => (512 + i, n * 1024 + 223))) b CE.out); have HB1 := Lib.hid hb; clear b hg hb)
    | (go_at_call 15; refine (memory_any _ 0 4 4 rfl (by omega) (by decide) (some ⟨g1, 0, none⟩) 1 1 (fun _ => (512 + i, n * 1024 + 223)) RC.out (by decide)).mono ?_; rintro e w3 ⟨h1, h2, F1, F2, rfl, d⟩; have D := Lib.hid d; clear d)
    | ((with_reducible refine Step.gate_alloc (t := 31) rfl ?_); refine Step.freshAlloc rfl rfl (alloc_agg zero_two) ?_; intro g2 w4 b hg hb; have B2 := Lib.hid b; have D2 := Lib.hid (D.out.below hb); have HG2 := Lib.hid (show ∀ k, F1 k ∨ F2 k → k ≠ g2 from fun k h e => by subst e; have := D.out.bound k h; omega); have HN2 := Lib.hid (show w1.heap.size ≤ g2 from Nat.le_trans D.out.mod.size hg); clear b hg hb)
    | ((with_reducible refine Step.gate_store (t := 31) rfl ?_); refine Step.storeAll (vs := #[.pointer (some ⟨h1, 0, none⟩), .pointer (some ⟨h2, 0, none⟩)]) B2.out rfl rfl rfl rfl rfl size_two rfl rfl ?_; intro w5 nb m; have c0 := nb.cell 0; have D3 := Lib.hid (D2.out.other m (fun k h e => HG2.out k h e) (fun k e => by obtain rfl : k = g2 := e; exact HN2.out)); simp only [List.getElem?_toArray, List.getElem?_cons_zero] at c0; clear nb m)
    | (go_at_call 12; have GA := Lib.hid (guest_is D3.out.one 1 (i * 1073741824 + o) 2 ⟨by decide, by decide⟩ GU.out GE.out); refine (GA.out).mono ?_; rintro e w6 ⟨rfl, hb⟩; have D6 := Lib.hid (D3.out.below hb); clear hb GA)
    | (go_at_call 13; refine (AW.out _).mono ?_; rintro e w7 ⟨rfl, hb⟩; have D7 := Lib.hid (D6.out.below hb); clear hb))
  go_ret
  exact ⟨rfl, HB1.out.trans (D7.out.out.mono HB1.out.size)⟩

theorem big_any (level number off slot : Int) (W : World) (w1 : (Lit.int .i64 level).wf = true) (w2 : (Lit.int .u64 number).wf = true) (w3 : (Lit.int .u64 off).wf = true) (w4 : (Lit.int .u64 slot).wf = true) :
    Calls Try.prog 4 #[.int .i64 level, .int .u64 number, .int .u64 off, .int .u64 slot] W fun e w' => e = .returned (.bool true) ∧ Below W.heap.size W w' := by
  obtain hk | hk : level % 2 = 0 ∨ level % 2 = 1 := by omega
  · by_cases hz : number % 1048576 % 512 = 0
    · exact big_10 level number off slot _ _ _ W (i64_wf w1) hk (u64_wf w2) (u64_wf w3) (u64_wf w4) rfl rfl rfl hz
    · exact big_11 level number off slot _ _ _ W (i64_wf w1) hk (u64_wf w2) (u64_wf w3) (u64_wf w4) rfl rfl rfl hz
  · by_cases hz : number % 1048576 % 262144 = 0
    · exact big_20 level number off slot _ _ _ W (i64_wf w1) hk (u64_wf w2) (u64_wf w3) (u64_wf w4) rfl rfl rfl hz
    · exact big_21 level number off slot _ _ _ W (i64_wf w1) hk (u64_wf w2) (u64_wf w3) (u64_wf w4) rfl rfl rfl hz
end Go.Proofs.Ytfoocpcpljlndaa.Duo
