/- Parts of the walks and laws for the claim: PageA, PageB, PageC, PageE, RefG, PageD, Down; no conditions beyond the theorems' own. -/
import Derived.BigQuiet
import Derived.Deep.RegionHeld3
import Derived.ScopeJumps
import Derived.Test.YtchpnbckgofiaaaGreatQ3
import Derived.Test.YtchpnbckgofiaaaGreatQ4
section
namespace Go.Proofs.YtchpnbckgofiaaaGreat.Tab
open Go Go.RowKit Go.Proofs.YtchpnbckgofiaaaGreat.Step Go.Proofs.YtchpnbckgofiaaaGreat.Mem
set_option linter.unusedVariables false
set_option linter.unusedSimpArgs false
set_option maxRecDepth 100000
def hasN (e : Int) (c : Nat) : Bool := (((lo e &&& c : Nat) : Int) == (c : Int))
theorem fe1 : ∀ k, k < 256 → (((k &&& 1 : Nat) : Int) == 0) = !k.testBit 0 := by decide +kernel
theorem ce1 {e : Int} (h : U64 e) : (bits .and .u64 e 1 == 0) = !bt e 0 := by rw [show (1 : Int) = ((1 : Nat) : Int) from rfl, and_lo 1 h (by decide)]; exact fe1 _ (lo_lt e)
theorem fe2 : ∀ k, k < 256 → (((k &&& 2 : Nat) : Int) == 0) = !k.testBit 1 := by decide +kernel
theorem fn2 : ∀ k, k < 256 → (((k &&& 2 : Nat) : Int) != 0) = k.testBit 1 := by decide +kernel
theorem ce2 {e : Int} (h : U64 e) : (bits .and .u64 e 2 == 0) = !bt e 1 := by rw [show (2 : Int) = ((2 : Nat) : Int) from rfl, and_lo 2 h (by decide)]; exact fe2 _ (lo_lt e)
theorem cn2 {e : Int} (h : U64 e) : (bits .and .u64 e 2 != 0) = bt e 1 := by rw [show (2 : Int) = ((2 : Nat) : Int) from rfl, and_lo 2 h (by decide)]; exact fn2 _ (lo_lt e)
theorem fn4 : ∀ k, k < 256 → (((k &&& 4 : Nat) : Int) != 0) = k.testBit 2 := by decide +kernel
theorem cn4 {e : Int} (h : U64 e) : (bits .and .u64 e 4 != 0) = bt e 2 := by rw [show (4 : Int) = ((4 : Nat) : Int) from rfl, and_lo 4 h (by decide)]; exact fn4 _ (lo_lt e)
theorem fn8 : ∀ k, k < 256 → (((k &&& 8 : Nat) : Int) != 0) = k.testBit 3 := by decide +kernel
theorem cn8 {e : Int} (h : U64 e) : (bits .and .u64 e 8 != 0) = bt e 3 := by rw [show (8 : Int) = ((8 : Nat) : Int) from rfl, and_lo 8 h (by decide)]; exact fn8 _ (lo_lt e)
theorem fe16 : ∀ k, k < 256 → (((k &&& 16 : Nat) : Int) == 0) = !k.testBit 4 := by decide +kernel
theorem fn16 : ∀ k, k < 256 → (((k &&& 16 : Nat) : Int) != 0) = k.testBit 4 := by decide +kernel
theorem ce16 {e : Int} (h : U64 e) : (bits .and .u64 e 16 == 0) = !bt e 4 := by rw [show (16 : Int) = ((16 : Nat) : Int) from rfl, and_lo 16 h (by decide)]; exact fe16 _ (lo_lt e)
theorem cn16 {e : Int} (h : U64 e) : (bits .and .u64 e 16 != 0) = bt e 4 := by rw [show (16 : Int) = ((16 : Nat) : Int) from rfl, and_lo 16 h (by decide)]; exact fn16 _ (lo_lt e)
theorem fe64 : ∀ k, k < 256 → (((k &&& 64 : Nat) : Int) == 0) = !k.testBit 6 := by decide +kernel
theorem fn64 : ∀ k, k < 256 → (((k &&& 64 : Nat) : Int) != 0) = k.testBit 6 := by decide +kernel
theorem ce64 {e : Int} (h : U64 e) : (bits .and .u64 e 64 == 0) = !bt e 6 := by rw [show (64 : Int) = ((64 : Nat) : Int) from rfl, and_lo 64 h (by decide)]; exact fe64 _ (lo_lt e)
theorem cn64 {e : Int} (h : U64 e) : (bits .and .u64 e 64 != 0) = bt e 6 := by rw [show (64 : Int) = ((64 : Nat) : Int) from rfl, and_lo 64 h (by decide)]; exact fn64 _ (lo_lt e)
theorem fn128 : ∀ k, k < 256 → (((k &&& 128 : Nat) : Int) != 0) = k.testBit 7 := by decide +kernel
theorem cn128 {e : Int} (h : U64 e) : (bits .and .u64 e 128 != 0) = bt e 7 := by rw [show (128 : Int) = ((128 : Nat) : Int) from rfl, and_lo 128 h (by decide)]; exact fn128 _ (lo_lt e)
theorem f_w : ∀ k, k < 256 → (((k &&& 6 : Nat) : Int) == 4) = (k.testBit 2 && !k.testBit 1) := by decide +kernel
theorem f_p : ∀ k, k < 256 → (((k &&& 10 : Nat) : Int) == 0) = (!k.testBit 1 && !k.testBit 3) := by decide +kernel
theorem c_w {e : Int} (h : U64 e) : (bits .and .u64 e 6 == 4) = (bt e 2 && !bt e 1) := by rw [show (6 : Int) = ((6 : Nat) : Int) from rfl, and_lo 6 h (by decide)]; exact f_w _ (lo_lt e)
theorem c_p {e : Int} (h : U64 e) : (bits .and .u64 e 10 == 0) = ptr e := by rw [show (10 : Int) = ((10 : Nat) : Int) from rfl, and_lo 10 h (by decide)]; exact f_p _ (lo_lt e)
theorem c_h {e : Int} (h : U64 e) : (e / 18014398509481984 != 0) = decide (18014398509481984 ≤ e) := by
  have := h.1
  by_cases g : 18014398509481984 ≤ e
  · rw [decide_eq_true g]; simp; omega
  · rw [decide_eq_false g]; simp; omega
theorem c_m2 {e : Int} (h : U64 e) : (e.tmod 2 == 0) = !bt e 0 := by
  obtain ⟨E, rfl⟩ := Int.eq_ofNat_of_zero_le h.1
  have h1 : bt (E : Int) 0 = decide (E % 2 = 1) := by
    unfold bt lo
    rw [Int.toNat_natCast, Nat.testBit_zero]
    exact decide_eq_decide.2 (by omega)
  rw [h1, Int.tmod_eq_emod_of_nonneg (by omega)]
  by_cases g : E % 2 = 1
  · rw [decide_eq_true g]; simp; omega
  · rw [decide_eq_false g]; simp; omega
theorem fh88 : ∀ k, k < 256 → (((k &&& 88 : Nat) : Int) == ((88 : Nat) : Int)) = (k.testBit 4 && k.testBit 6 && k.testBit 3) := by decide +kernel
theorem has88 (e : Int) : hasN e 88 = (bt e 4 && bt e 6 && bt e 3) := fh88 _ (lo_lt e)
theorem fh82 : ∀ k, k < 256 → (((k &&& 82 : Nat) : Int) == ((82 : Nat) : Int)) = (k.testBit 4 && k.testBit 6 && k.testBit 1) := by decide +kernel
theorem has82 (e : Int) : hasN e 82 = (bt e 4 && bt e 6 && bt e 1) := fh82 _ (lo_lt e)
theorem fh212 : ∀ k, k < 256 → (((k &&& 212 : Nat) : Int) == ((212 : Nat) : Int)) = (k.testBit 4 && k.testBit 6 && (k.testBit 2 && k.testBit 7)) := by decide +kernel
theorem has212 (e : Int) : hasN e 212 = (bt e 4 && bt e 6 && (bt e 2 && bt e 7)) := fh212 _ (lo_lt e)
theorem fh132 : ∀ k, k < 256 → (((k &&& 132 : Nat) : Int) == ((132 : Nat) : Int)) = (k.testBit 2 && k.testBit 7) := by decide +kernel
theorem has132 (e : Int) : hasN e 132 = (bt e 2 && bt e 7) := fh132 _ (lo_lt e)
theorem fh2 : ∀ k, k < 256 → (((k &&& 2 : Nat) : Int) == ((2 : Nat) : Int)) = (k.testBit 1) := by decide +kernel
theorem has2 (e : Int) : hasN e 2 = (bt e 1) := fh2 _ (lo_lt e)
theorem fh8 : ∀ k, k < 256 → (((k &&& 8 : Nat) : Int) == ((8 : Nat) : Int)) = (k.testBit 3) := by decide +kernel
theorem has8 (e : Int) : hasN e 8 = (bt e 3) := fh8 _ (lo_lt e)
theorem fh16 : ∀ k, k < 256 → (((k &&& 16 : Nat) : Int) == ((16 : Nat) : Int)) = (k.testBit 4) := by decide +kernel
theorem has16 (e : Int) : hasN e 16 = (bt e 4) := fh16 _ (lo_lt e)
theorem fh64 : ∀ k, k < 256 → (((k &&& 64 : Nat) : Int) == ((64 : Nat) : Int)) = (k.testBit 6) := by decide +kernel
theorem has64 (e : Int) : hasN e 64 = (bt e 6) := fh64 _ (lo_lt e)
theorem fh128 : ∀ k, k < 256 → (((k &&& 128 : Nat) : Int) == ((128 : Nat) : Int)) = (k.testBit 7) := by decide +kernel
theorem has128 (e : Int) : hasN e 128 = (bt e 7) := fh128 _ (lo_lt e)
set_option maxHeartbeats 1000000 in
theorem wrong_any {e : Int} (h : U64 e) (w : World) : Calls Tryz.prog 113 #[.int .u64 e] w fun x w' => x = .returned (.bool (wrongB e)) ∧ w = w' := by
  have c1 := ce1 h
  have c2 := c_w h
  have c3 := c_h h
  have E : wrongB e = (!bt e 0 || (bt e 2 && !bt e 1) || decide (18014398509481984 ≤ e)) := rfl
  generalize bt e 0 = b0 at c1 E
  generalize (bt e 2 && !bt e 1) = b1 at c2 E
  generalize decide (18014398509481984 ≤ e) = b2 at c3 E
  have EE := Lib.hid E
  clear E h
  cases b0 <;> cases b1 <;> cases b2 <;> (simp only [Bool.not_true, Bool.not_false] at c1 c2 c3; go_enter Tryz.func113, Tryz.ntmps113; go_wp2; go_ret; exact ⟨by rw [EE.out]; rfl, rfl⟩)
theorem has_z {W : World} {g : Nat} {leaf : Int} (c1 : W.cell? ⟨g, 1, none⟩ = some (.int .u64 leaf)) (h : U64 leaf) (z : Int) (c : Nat) (hz : z = c) (hc : c < 256) :
    Calls Tryz.prog 112 #[.pointer (some ⟨g, 0, none⟩), .int .u64 z] W fun x w' => x = .returned (.bool (hasN leaf c)) ∧ W = w' := by
  have E := Lib.hid (show (bits .and .u64 leaf z == z) = hasN leaf c by rw [hz, and_lo c h hc]; rfl)
  clear hz hc h
  go_enter Tryz.func112, Tryz.ntmps112
  go_wp2
  go_ret
  exact ⟨by rw [← E.out]; rfl, rfl⟩
set_option maxHeartbeats 1000000 in
theorem place_0 {W : World} {g : Nat} {leaf addr : Int} (c1 : W.cell? ⟨g, 1, none⟩ = some (.int .u64 leaf)) (c2 : W.cell? ⟨g, 2, none⟩ = some (.int .i64 0)) (h : U64 leaf) (ha : U64 addr) (ho : odd leaf 0 = false) :
    Calls Tryz.prog 74 #[.pointer (some ⟨g, 0, none⟩), .int .u64 addr] W fun x w' => x = .returned (.int .u64 (at_ leaf 0 addr)) ∧ ∃ k, w' = W.drewN k := by
  have p1 := pn_u leaf
  have h1 : bits .and .u64 (leaf / 1024) 17592186044415 = pn leaf := and_mask 44 ⟨by have := h.1; omega, by have := h.2; omega⟩ (by decide)
  have h2 : IntKind.u64.wrap (pn leaf * 4096) = pn leaf * 4096 := IntWalk.u64_in _ (by omega)
  have h3 : bits .and .u64 addr 4095 = addr % 4096 := and_mask 12 ha (by decide)
  have h5 : pn leaf % 1 = 0 := by omega
  have h4 : bits .or .u64 (pn leaf * 4096) (addr % 4096) = at_ leaf 0 addr := or_add 12 ⟨by omega, by omega⟩ (by show pn leaf * 4096 % 4096 = 0; omega) (by show 0 ≤ addr % 4096 ∧ addr % 4096 < 4096; omega) (by omega)
  clear h ha ho h5 p1
  go_enter Tryz.func74, Tryz.ntmps74
  go_wp2
  go_quiet (fail)
  go_wp2
  go_ret
  exact ⟨rfl, _, rfl⟩
set_option maxHeartbeats 1000000 in
theorem place_1 {W : World} {g : Nat} {leaf addr : Int} (c1 : W.cell? ⟨g, 1, none⟩ = some (.int .u64 leaf)) (c2 : W.cell? ⟨g, 2, none⟩ = some (.int .i64 1)) (h : U64 leaf) (ha : U64 addr) (ho : odd leaf 1 = false) :
    Calls Tryz.prog 74 #[.pointer (some ⟨g, 0, none⟩), .int .u64 addr] W fun x w' => x = .returned (.int .u64 (at_ leaf 1 addr)) ∧ ∃ k, w' = W.drewN k := by
  have p1 := pn_u leaf
  have h1 : bits .and .u64 (leaf / 1024) 17592186044415 = pn leaf := and_mask 44 ⟨by have := h.1; omega, by have := h.2; omega⟩ (by decide)
  have h2 : IntKind.u64.wrap (pn leaf * 4096) = pn leaf * 4096 := IntWalk.u64_in _ (by omega)
  have h3 : bits .and .u64 addr 2097151 = addr % 2097152 := and_mask 21 ha (by decide)
  have h5 : pn leaf % 512 = 0 := by have := of_decide_eq_false ho; simpa using this
  have h4 : bits .or .u64 (pn leaf * 4096) (addr % 2097152) = at_ leaf 1 addr := or_add 21 ⟨by omega, by omega⟩ (by show pn leaf * 4096 % 2097152 = 0; omega) (by show 0 ≤ addr % 2097152 ∧ addr % 2097152 < 2097152; omega) (by omega)
  clear h ha ho h5 p1
  go_enter Tryz.func74, Tryz.ntmps74
  go_wp2
  go_quiet (fail)
  go_wp2
  go_ret
  exact ⟨rfl, _, rfl⟩
set_option maxHeartbeats 1000000 in
theorem place_2 {W : World} {g : Nat} {leaf addr : Int} (c1 : W.cell? ⟨g, 1, none⟩ = some (.int .u64 leaf)) (c2 : W.cell? ⟨g, 2, none⟩ = some (.int .i64 2)) (h : U64 leaf) (ha : U64 addr) (ho : odd leaf 2 = false) :
    Calls Tryz.prog 74 #[.pointer (some ⟨g, 0, none⟩), .int .u64 addr] W fun x w' => x = .returned (.int .u64 (at_ leaf 2 addr)) ∧ ∃ k, w' = W.drewN k := by
  have p1 := pn_u leaf
  have h1 : bits .and .u64 (leaf / 1024) 17592186044415 = pn leaf := and_mask 44 ⟨by have := h.1; omega, by have := h.2; omega⟩ (by decide)
  have h2 : IntKind.u64.wrap (pn leaf * 4096) = pn leaf * 4096 := IntWalk.u64_in _ (by omega)
  have h3 : bits .and .u64 addr 1073741823 = addr % 1073741824 := and_mask 30 ha (by decide)
  have h5 : pn leaf % 262144 = 0 := by have := of_decide_eq_false ho; simpa using this
  have h4 : bits .or .u64 (pn leaf * 4096) (addr % 1073741824) = at_ leaf 2 addr := or_add 30 ⟨by omega, by omega⟩ (by show pn leaf * 4096 % 1073741824 = 0; omega) (by show 0 ≤ addr % 1073741824 ∧ addr % 1073741824 < 1073741824; omega) (by omega)
  clear h ha ho h5 p1
  go_enter Tryz.func74, Tryz.ntmps74
  go_wp2
  go_quiet (fail)
  go_wp2
  go_ret
  exact ⟨rfl, _, rfl⟩
theorem place_any {W : World} {g l : Nat} {leaf addr : Int} (hl : l ≤ 2) (c1 : W.cell? ⟨g, 1, none⟩ = some (.int .u64 leaf)) (c2 : W.cell? ⟨g, 2, none⟩ = some (.int .i64 l)) (h : U64 leaf) (ha : U64 addr) (ho : odd leaf l = false) :
    Calls Tryz.prog 74 #[.pointer (some ⟨g, 0, none⟩), .int .u64 addr] W fun x w' => x = .returned (.int .u64 (at_ leaf l addr)) ∧ ∃ k, w' = W.drewN k := by
  obtain e | e | e : l = 0 ∨ l = 1 ∨ l = 2 := by omega
  · subst e; exact place_0 c1 c2 h ha ho
  · subst e; exact place_1 c1 c2 h ha ho
  · subst e; exact place_2 c1 c2 h ha ho
end Go.Proofs.YtchpnbckgofiaaaGreat.Tab
end
section
namespace Go.Proofs.YtchpnbckgofiaaaGreat.Tab
open Go Go.RowKit Go.Proofs.YtchpnbckgofiaaaGreat.Step Go.Proofs.YtchpnbckgofiaaaGreat.Mem
set_option linter.unusedVariables false
set_option linter.unusedSimpArgs false
set_option maxRecDepth 100000
theorem lets2_any {W : World} {g : Nat} {leaf : Int} (c1 : W.cell? ⟨g, 1, none⟩ = some (.int .u64 leaf)) (h : U64 leaf) (a : Int) :
    Calls Tryz.prog 111 #[.pointer (some ⟨g, 0, none⟩), .int .i64 a] W fun x w' => x = .returned (.bool (lets2 leaf a)) ∧ W = w' := by
  have T1 := Lib.hid (has_z c1 h 88 88 rfl (by decide))
  have T2 := Lib.hid (has_z c1 h 82 82 rfl (by decide))
  have T3 := Lib.hid (has_z c1 h 212 212 rfl (by decide))
  have E := Lib.hid (show lets2 leaf a = (bt leaf 4 && bt leaf 6 && (if a = 1 then bt leaf 3 else if a = 2 then bt leaf 1 else if a = 3 then bt leaf 2 && bt leaf 7 else false)) from rfl)
  clear c1 h
  by_cases a1 : a = 1
  · subst a1
    go_enter Tryz.func111, Tryz.ntmps111
    go_wp2_with (go_at_call 112; refine (T1.out).mono ?_; rintro e w1 ⟨rfl, rfl⟩)
    go_ret
    exact ⟨by rw [E.out, has88]; rfl, rfl⟩
  by_cases a2 : a = 2
  · subst a2
    go_enter Tryz.func111, Tryz.ntmps111
    go_wp2_with (go_at_call 112; refine (T2.out).mono ?_; rintro e w1 ⟨rfl, rfl⟩)
    go_ret
    exact ⟨by rw [E.out, has82]; rfl, rfl⟩
  by_cases a3 : a = 3
  · subst a3
    go_enter Tryz.func111, Tryz.ntmps111
    go_wp2_with (go_at_call 112; refine (T3.out).mono ?_; rintro e w1 ⟨rfl, rfl⟩)
    go_ret
    exact ⟨by rw [E.out, has212]; rfl, rfl⟩
  have d1 : (a == 1) = false := by simpa using a1
  have d2 : (a == 2) = false := by simpa using a2
  have d3 : (a == 3) = false := by simpa using a3
  have E2 := Lib.hid (show lets2 leaf a = false by rw [E.out, if_neg a1, if_neg a2, if_neg a3, Bool.and_false])
  clear a1 a2 a3 E
  go_enter Tryz.func111, Tryz.ntmps111
  go_wp2
  go_ret
  exact ⟨by rw [E2.out]; rfl, rfl⟩
theorem rwrong_any {e : Int} (h : U64 e) (w : World) : Calls Tryz.prog 92 #[.int .u64 e] w fun x w' => x = .returned (.bool (wrongB e)) ∧ w = w' := by
  have c1 := c_m2 h
  have c2 := cn4 h
  have c4 := ce2 h
  have c3 := c_h h
  have E : wrongB e = (!bt e 0 || (bt e 2 && !bt e 1) || decide (18014398509481984 ≤ e)) := rfl
  generalize bt e 0 = b0 at c1 E
  generalize bt e 2 = b1 at c2 E
  generalize bt e 1 = b3 at c4 E
  generalize decide (18014398509481984 ≤ e) = b2 at c3 E
  have EE := Lib.hid E
  clear E h
  cases b0 <;> cases b1 <;> cases b2 <;> cases b3 <;> (simp only [Bool.not_true, Bool.not_false] at c1 c2 c3 c4; go_enter Tryz.func92, Tryz.ntmps92; go_wp2; go_ret; exact ⟨by rw [EE.out]; rfl, rfl⟩)
theorem number_any {e : Int} (h : U64 e) (w : World) : Calls Tryz.prog 93 #[.int .u64 e] w fun x w' => x = .returned (.int .u64 (pn e)) ∧ w = w' := by
  have h1 : bits .and .u64 (e / 1024) 17592186044415 = pn e := and_mask 44 ⟨by have := h.1; omega, by have := h.2; omega⟩ (by decide)
  clear h
  go_enter Tryz.func93, Tryz.ntmps93
  go_wp2
  go_ret
  exact ⟨rfl, rfl⟩
set_option maxHeartbeats 1000000 in
theorem misplaced_any {e : Int} {l : Nat} (hl : l ≤ 2) (h : U64 e) (w : World) : Calls Tryz.prog 94 #[.int .u64 e, .int .i64 l] w fun x w' => x = .returned (.bool (odd e l)) ∧ w = w' := by
  have T := Lib.hid (number_any h)
  have p1 := pn_u e
  have E := Lib.hid (show odd e l = decide (pn e % (2 ^ (9 * l) : Nat) ≠ 0) from rfl)
  have N : ∀ v : Int, (v != 0) = decide (v ≠ 0) := fun v => by by_cases hv : v = 0 <;> simp [hv]
  have NN := Lib.hid N
  clear h N
  obtain e | e | e : l = 0 ∨ l = 1 ∨ l = 2 := by omega
  all_goals
    subst e
    go_enter Tryz.func94, Tryz.ntmps94
    go_wp2_with (go_at_call 93; refine (T.out _).mono ?_; rintro e w1 ⟨rfl, rfl⟩)
    go_ret
    first
      | exact ⟨by rw [E.out, ← NN.out]; rfl, rfl⟩
      | exact ⟨by rw [show odd e 0 = false from decide_eq_false (by omega)]; rfl, rfl⟩
set_option maxHeartbeats 1000000 in
theorem put_0 {W : World} {e addr : Int} (h : U64 e) (ha : U64 addr) :
    Calls Tryz.prog 96 #[.agg #[.int .u64 e, .int .i64 0], .int .u64 addr] W fun x w' => x = .returned (.int .u64 (at_ e 0 addr)) ∧ Below W.heap.size W w' := by
  have T := Lib.hid (fun w => (number_any h w).mono fun x w' h => (⟨h.1, h.2.symm⟩ : x = .returned (.int .u64 (pn e)) ∧ w' = w))
  have p1 := pn_u e
  have h2 : IntKind.u64.wrap (pn e * 4096) = pn e * 4096 := IntWalk.u64_in _ (by omega)
  have h3 : IntKind.u64.wrap (pn e * 4096 + addr.tmod 4096) = at_ e 0 addr := by rw [Int.tmod_eq_emod_of_nonneg ha.1]; exact IntWalk.u64_in _ (by omega)
  have hu := Tryz.underlying146
  clear h ha p1
  go_enter Tryz.func96, Tryz.ntmps96
  go_wp2
  go_quiet ((go_at_call 93; exact Calls.quiet_of_same (T.out _)))
  go_wp2
  go_ret
  exact ⟨rfl, (alloc_below _ _).trans ((below_drawn ⟨_, rfl⟩).mono (alloc_below _ _).size)⟩
set_option maxHeartbeats 1000000 in
theorem put_1 {W : World} {e addr : Int} (h : U64 e) (ha : U64 addr) :
    Calls Tryz.prog 96 #[.agg #[.int .u64 e, .int .i64 1], .int .u64 addr] W fun x w' => x = .returned (.int .u64 (at_ e 1 addr)) ∧ Below W.heap.size W w' := by
  have T := Lib.hid (fun w => (number_any h w).mono fun x w' h => (⟨h.1, h.2.symm⟩ : x = .returned (.int .u64 (pn e)) ∧ w' = w))
  have p1 := pn_u e
  have h2 : IntKind.u64.wrap (pn e * 4096) = pn e * 4096 := IntWalk.u64_in _ (by omega)
  have h3 : IntKind.u64.wrap (pn e * 4096 + addr.tmod 2097152) = at_ e 1 addr := by rw [Int.tmod_eq_emod_of_nonneg ha.1]; exact IntWalk.u64_in _ (by omega)
  have hu := Tryz.underlying146
  clear h ha p1
  go_enter Tryz.func96, Tryz.ntmps96
  go_wp2
  go_quiet ((go_at_call 93; exact Calls.quiet_of_same (T.out _)))
  go_wp2
  go_ret
  exact ⟨rfl, (alloc_below _ _).trans ((below_drawn ⟨_, rfl⟩).mono (alloc_below _ _).size)⟩
set_option maxHeartbeats 1000000 in
theorem put_2 {W : World} {e addr : Int} (h : U64 e) (ha : U64 addr) :
    Calls Tryz.prog 96 #[.agg #[.int .u64 e, .int .i64 2], .int .u64 addr] W fun x w' => x = .returned (.int .u64 (at_ e 2 addr)) ∧ Below W.heap.size W w' := by
  have T := Lib.hid (fun w => (number_any h w).mono fun x w' h => (⟨h.1, h.2.symm⟩ : x = .returned (.int .u64 (pn e)) ∧ w' = w))
  have p1 := pn_u e
  have h2 : IntKind.u64.wrap (pn e * 4096) = pn e * 4096 := IntWalk.u64_in _ (by omega)
  have h3 : IntKind.u64.wrap (pn e * 4096 + addr.tmod 1073741824) = at_ e 2 addr := by rw [Int.tmod_eq_emod_of_nonneg ha.1]; exact IntWalk.u64_in _ (by omega)
  have hu := Tryz.underlying146
  clear h ha p1
  go_enter Tryz.func96, Tryz.ntmps96
  go_wp2
  go_quiet ((go_at_call 93; exact Calls.quiet_of_same (T.out _)))
  go_wp2
  go_ret
  exact ⟨rfl, (alloc_below _ _).trans ((below_drawn ⟨_, rfl⟩).mono (alloc_below _ _).size)⟩
theorem put_any {W : World} {e addr : Int} {l : Nat} (hl : l ≤ 2) (h : U64 e) (ha : U64 addr) :
    Calls Tryz.prog 96 #[.agg #[.int .u64 e, .int .i64 l], .int .u64 addr] W fun x w' => x = .returned (.int .u64 (at_ e l addr)) ∧ Below W.heap.size W w' := by
  obtain e | e | e : l = 0 ∨ l = 1 ∨ l = 2 := by omega
  · subst e; exact put_0 h ha
  · subst e; exact put_1 h ha
  · subst e; exact put_2 h ha
end Go.Proofs.YtchpnbckgofiaaaGreat.Tab
end
section
namespace Go.Proofs.YtchpnbckgofiaaaGreat.Tab
open Go Go.RowKit Go.Proofs.YtchpnbckgofiaaaGreat.Step Go.Proofs.YtchpnbckgofiaaaGreat.Mem
set_option linter.unusedVariables false
set_option linter.unusedSimpArgs false
set_option maxRecDepth 100000
theorem has_b {W : World} {g : Nat} {leaf : Int} (c1 : W.cell? ⟨g, 1, none⟩ = some (.int .u64 leaf)) (h : U64 leaf) (z : Int) (c : Nat) (hz : z = c) (hc : c < 256) {b : Bool} (hb : hasN leaf c = b) :
    Calls Tryz.prog 112 #[.pointer (some ⟨g, 0, none⟩), .int .u64 z] W fun x w' => x = .returned (.bool b) ∧ W = w' := hb ▸ has_z c1 h z c hz hc
set_option maxHeartbeats 4000000 in
theorem lets1_any {W : World} {g : Nat} {leaf : Int} {user sum mxr : Bool} (c1 : W.cell? ⟨g, 1, none⟩ = some (.int .u64 leaf)) (c5 : W.cell? ⟨g, 5, none⟩ = some (.bool user)) (c6 : W.cell? ⟨g, 6, none⟩ = some (.bool sum)) (c7 : W.cell? ⟨g, 7, none⟩ = some (.bool mxr)) (h : U64 leaf) (a : Int) :
    Calls Tryz.prog 73 #[.pointer (some ⟨g, 0, none⟩), .int .i64 a] W fun x w' => x = .returned (.bool (lets1 user sum mxr leaf a)) ∧ W = w' := by
  have T1 := Lib.hid (has_b c1 h 16 16 rfl (by decide) (has16 leaf))
  have T2 := Lib.hid (has_b c1 h 64 64 rfl (by decide) (has64 leaf))
  have T3 := Lib.hid (has_b c1 h 8 8 rfl (by decide) (has8 leaf))
  have T4 := Lib.hid (has_b c1 h 2 2 rfl (by decide) (has2 leaf))
  have T5 := Lib.hid (has_b c1 h 132 132 rfl (by decide) (has132 leaf))
  have E : lets1 user sum mxr leaf a = (!((user && !bt leaf 4) || (!user && bt leaf 4 && (decide (a = 1) || !sum))) && bt leaf 6 && (if a = 1 then bt leaf 3 else if a = 2 then bt leaf 1 || (mxr && bt leaf 3) else if a = 3 then bt leaf 2 && bt leaf 7 else false)) := rfl
  generalize lets1 user sum mxr leaf a = res at E
  generalize bt leaf 4 = b4 at T1 E
  generalize bt leaf 6 = b6 at T2 E
  generalize bt leaf 3 = b3 at T3 E
  generalize bt leaf 1 = b1 at T4 E
  generalize (bt leaf 2 && bt leaf 7) = b27 at T5 E
  clear c1 h
  by_cases a1 : a = 1
  · subst a1
    have EE := Lib.hid E
    clear E T4 T5
    cases user <;> cases b4 <;> cases sum <;> cases b6 <;> (
      go_enter Tryz.func73, Tryz.ntmps73
      go_wp2_with (go_at_call 112; (first
 | ((with_reducible refine (T1.out).mono ?_); rintro e w1 ⟨rfl, rfl⟩)
 | ((with_reducible refine (T2.out).mono ?_); rintro e w1 ⟨rfl, rfl⟩)
 | ((with_reducible refine (T3.out).mono ?_); rintro e w1 ⟨rfl, rfl⟩)))
      go_ret
      exact ⟨by rw [EE.out]; rfl, rfl⟩)
  by_cases a2 : a = 2
  · subst a2
    have EE := Lib.hid E
    clear E T5 a1
    cases user <;> cases b4 <;> cases sum <;> cases b6 <;> cases b1 <;> cases mxr <;> (
      go_enter Tryz.func73, Tryz.ntmps73
      go_wp2_with (go_at_call 112; (first
 | ((with_reducible refine (T1.out).mono ?_); rintro e w1 ⟨rfl, rfl⟩)
 | ((with_reducible refine (T2.out).mono ?_); rintro e w1 ⟨rfl, rfl⟩)
 | ((with_reducible refine (T3.out).mono ?_); rintro e w1 ⟨rfl, rfl⟩)
 | ((with_reducible refine (T4.out).mono ?_); rintro e w1 ⟨rfl, rfl⟩)))
      go_ret
      exact ⟨by rw [EE.out]; rfl, rfl⟩)
  by_cases a3 : a = 3
  · subst a3
    have EE := Lib.hid E
    clear E T3 T4 a1 a2
    cases user <;> cases b4 <;> cases sum <;> cases b6 <;> (
      go_enter Tryz.func73, Tryz.ntmps73
      go_wp2_with (go_at_call 112; (first
 | ((with_reducible refine (T1.out).mono ?_); rintro e w1 ⟨rfl, rfl⟩)
 | ((with_reducible refine (T2.out).mono ?_); rintro e w1 ⟨rfl, rfl⟩)
 | ((with_reducible refine (T5.out).mono ?_); rintro e w1 ⟨rfl, rfl⟩)))
      go_ret
      exact ⟨by rw [EE.out]; rfl, rfl⟩)
  have d1 : (a == 1) = false := by simpa using a1
  have d2 : (a == 2) = false := by simpa using a2
  have d3 : (a == 3) = false := by simpa using a3
  rw [if_neg a1, if_neg a2, if_neg a3, Bool.and_false] at E
  have EE := Lib.hid E
  clear E a1 a2 a3 T3 T4 T5
  cases user <;> cases b4 <;> cases sum <;> cases b6 <;> (
    go_enter Tryz.func73, Tryz.ntmps73
    go_wp2_with (go_at_call 112; (first
 | ((with_reducible refine (T1.out).mono ?_); rintro e w1 ⟨rfl, rfl⟩)
 | ((with_reducible refine (T2.out).mono ?_); rintro e w1 ⟨rfl, rfl⟩)))
    go_ret
    exact ⟨by rw [EE.out]; rfl, rfl⟩)
set_option maxHeartbeats 1000000 in
theorem rlets_any {leaf : Int} (h : U64 leaf) (a : Int) (W : World) :
    Calls Tryz.prog 97 #[.int .u64 leaf, .int .i64 a] W fun x w' => x = .returned (.bool (lets2 leaf a)) ∧ W = w' := by
  have T1 := ce16 h
  have T2 := ce64 h
  have T3 := cn8 h
  have T4 := cn2 h
  have T5 := cn4 h
  have T6 := cn128 h
  have E : lets2 leaf a = (bt leaf 4 && bt leaf 6 && (if a = 1 then bt leaf 3 else if a = 2 then bt leaf 1 else if a = 3 then bt leaf 2 && bt leaf 7 else false)) := rfl
  generalize lets2 leaf a = res at E
  generalize bt leaf 4 = b4 at T1 E
  generalize bt leaf 6 = b6 at T2 E
  generalize bt leaf 3 = b3 at T3 E
  generalize bt leaf 1 = b1 at T4 E
  generalize bt leaf 2 = b2 at T5 E
  generalize bt leaf 7 = b7 at T6 E
  clear h
  by_cases a1 : a = 1
  · subst a1
    have EE := Lib.hid E
    clear E
    cases b4 <;> cases b6 <;> (simp only [Bool.not_true, Bool.not_false] at T1 T2; go_enter Tryz.func97, Tryz.ntmps97; go_wp2; go_ret; exact ⟨by rw [EE.out]; rfl, rfl⟩)
  by_cases a2 : a = 2
  · subst a2
    have EE := Lib.hid E
    clear E a1
    cases b4 <;> cases b6 <;> (simp only [Bool.not_true, Bool.not_false] at T1 T2; go_enter Tryz.func97, Tryz.ntmps97; go_wp2; go_ret; exact ⟨by rw [EE.out]; rfl, rfl⟩)
  by_cases a3 : a = 3
  · subst a3
    have EE := Lib.hid E
    clear E a1 a2
    cases b4 <;> cases b6 <;> cases b2 <;> (simp only [Bool.not_true, Bool.not_false] at T1 T2; go_enter Tryz.func97, Tryz.ntmps97; go_wp2; go_ret; exact ⟨by rw [EE.out]; rfl, rfl⟩)
  have d1 : (a == 1) = false := by simpa using a1
  have d2 : (a == 2) = false := by simpa using a2
  have d3 : (a == 3) = false := by simpa using a3
  rw [if_neg a1, if_neg a2, if_neg a3, Bool.and_false] at E
  have EE := Lib.hid E
  clear E a1 a2 a3
  cases b4 <;> cases b6 <;> (simp only [Bool.not_true, Bool.not_false] at T1 T2; go_enter Tryz.func97, Tryz.ntmps97; go_wp2; go_ret; exact ⟨by rw [EE.out]; rfl, rfl⟩)
end Go.Proofs.YtchpnbckgofiaaaGreat.Tab
end
section
namespace Go.Proofs.YtchpnbckgofiaaaGreat.Tab
open Go Go.RowKit Go.Proofs.YtchpnbckgofiaaaGreat.Step Go.Proofs.YtchpnbckgofiaaaGreat.Mem
set_option linter.unusedVariables false
set_option linter.unusedSimpArgs false
set_option maxRecDepth 100000
theorem pl_int : Step.plainT Tryz.prog 3 = true := by kernel_rfl
theorem read_z {W : World} {h n : Nat} {base : Int} {mem : Nat → Int} {F : Nat → Prop} (r : Ram W h base n mem F) (addr z : Int) (s : Nat) (hz : z = s) (ha : 0 ≤ addr ∧ addr < 18446744073709551616) (h1 : wholeB s = true) (h2 : hasB base n addr s = true) :
    Calls Tryz.prog 32 #[.pointer (some ⟨h, 0, none⟩), .int .u64 addr, .int .i64 z] W fun e W' => e = .returned (.tuple #[.int .u64 (num mem (addr - base).toNat s), .bool true]) ∧ ∃ k, W' = W.drewN k := by subst hz; exact read_yes r addr s ha h1 h2
theorem phys_any {W : World} {h n c : Nat} {base : Int} {mem : Nat → Int} {F : Nat → Prop} (r : Ram W h base n mem F) (cb : W.cell? ⟨c, 0, none⟩ = some (.pointer (some ⟨h, 0, none⟩))) (t i : Int) (ht : U64 t) (hi : 0 ≤ i ∧ i < 512) :
    Calls Tryz.prog 110 #[.int .u64 t, .int .u64 i, .pointer (some ⟨c, 0, none⟩)] W fun e W' => e = .returned (.tuple #[.int .u64 (phys base n mem t i).1, .int .i64 (phys base n mem t i).2]) ∧ ∃ k, W' = W.drewN k := by
  obtain ⟨t0, t1⟩ := ht
  obtain ⟨i0, i1⟩ := hi
  by_cases hp : 4503599627370496 ≤ t
  · have d : decide (4503599627370496 ≤ t) = true := decide_eq_true hp
    have E := Lib.hid (show phys base n mem t i = (0, 3) from if_pos hp)
    clear hp r
    go_enter Tryz.func110, Tryz.ntmps110
    go_wp2
    refine bodyPost_ret (results_tmp2 rfl _ _ _) rfl ⟨by rw [E.out]; rfl, 0, rfl⟩
  · have d : decide (4503599627370496 ≤ t) = false := decide_eq_false hp
    have w1 : IntKind.u64.wrap (t * 4096) = t * 4096 := IntWalk.u64_in _ (by omega)
    have w2 : IntKind.u64.wrap (8 * i) = 8 * i := IntWalk.u64_in _ (by omega)
    have w3 : IntKind.u64.wrap (t * 4096 + 8 * i) = t * 4096 + 8 * i := IntWalk.u64_in _ (by omega)
    cases hh : hasB base n (t * 4096 + 8 * i) 8 with
    | true =>
      have E := Lib.hid (show phys base n mem t i = (num mem (t * 4096 + 8 * i - base).toNat 8, 0) by unfold phys; rw [if_neg hp, if_pos hh])
      have T := Lib.hid (read_z r (t * 4096 + 8 * i) 8 8 rfl (by omega) (by decide) hh)
      clear hp hh r
      go_enter Tryz.func110, Tryz.ntmps110
      go_wp2_with (go_at_call 32; refine (T.out).mono ?_; rintro e w1 ⟨rfl, hw⟩; have HW := Lib.hid hw; clear hw)
      refine bodyPost_ret (results_tmp2 rfl _ _ _) rfl ⟨by rw [E.out]; rfl, HW.out⟩
    | false =>
      have E := Lib.hid (show phys base n mem t i = (0, 3) by unfold phys; rw [if_neg hp, if_neg (by rw [hh]; decide)])
      have T := Lib.hid (read_no r (t * 4096 + 8 * i) 8 (by omega) (by omega) (by rw [hh]; rfl))
      clear hp hh r
      go_enter Tryz.func110, Tryz.ntmps110
      go_wp2_with (go_at_call 32; refine (T.out).mono ?_; rintro e w1 ⟨rfl, hw⟩; have HW := Lib.hid hw; clear hw)
      refine bodyPost_ret (results_tmp2 rfl _ _ _) rfl ⟨by rw [E.out]; rfl, HW.out⟩
end Go.Proofs.YtchpnbckgofiaaaGreat.Tab
end
section
namespace Go.Proofs.YtchpnbckgofiaaaGreat.Tab
open Go Go.RowKit Go.Proofs.YtchpnbckgofiaaaGreat.Step Go.Proofs.YtchpnbckgofiaaaGreat.Mem
set_option linter.unusedVariables false
set_option linter.unusedSimpArgs false
set_option maxRecDepth 100000
theorem and_i64 {e : Int} (c : Nat) (h : U64 e) (hc : c < 256) : bits .and .i64 (IntKind.i64.wrap e) c = ((lo e &&& c : Nat) : Int) := by
  have h1 := and_lo c h hc
  have h2 : BitVec.ofInt 64 (IntKind.i64.wrap e) = BitVec.ofInt 64 e := by
    apply BitVec.eq_of_toNat_eq
    simp only [BitVec.toNat_ofInt, IntKind.wrap_i64]
    omega
  have h3 : IntKind.u64.wrap ((BitVec.ofInt 64 e &&& BitVec.ofInt 64 (c : Int)).toNat : Int) = ((lo e &&& c : Nat) : Int) := h1
  have h4 : (BitVec.ofInt 64 e &&& BitVec.ofInt 64 (c : Int)).toNat < 2 ^ 64 := BitVec.isLt _
  have h5 : lo e &&& c ≤ c := Nat.and_le_right
  show IntKind.i64.wrap ((BitVec.ofInt 64 (IntKind.i64.wrap e) &&& BitVec.ofInt 64 (c : Int)).toNat : Int) = _
  rw [h2]
  generalize (BitVec.ofInt 64 e &&& BitVec.ofInt 64 (c : Int)).toNat = X at h3 h4
  rw [IntWalk.u64_in _ (by omega)] at h3
  rw [h3]
  exact IntWalk.i64_in _ (by omega)
theorem and_w {e : Int} (h : U64 e) : bits .and .i64 (wrap64 e) 10 = ((lo e &&& 10 : Nat) : Int) := by
  rw [← IntWalk.i64_left, show (10 : Int) = ((10 : Nat) : Int) from rfl]
  exact and_i64 10 h (by decide)
theorem perm_r : ∀ k, k < 256 → (k.testBit 2 && k.testBit 7) = true → bits .or .i64 ((k &&& 10 : Nat) : Int) 4 = (if k.testBit 1 = true then 2 else 0) + (if k.testBit 2 = true ∧ k.testBit 7 = true then 4 else 0) + (if k.testBit 3 = true then 8 else 0) := by decide +kernel
theorem perm_s : ∀ k, k < 256 → (k.testBit 2 && k.testBit 7) = false → ((k &&& 10 : Nat) : Int) = (if k.testBit 1 = true then 2 else 0) + (if k.testBit 2 = true ∧ k.testBit 7 = true then 4 else 0) + (if k.testBit 3 = true then 8 else 0) := by decide +kernel
theorem rread_z {W : World} {h n : Nat} {base : Int} {mem : Nat → Int} {F : Nat → Prop} (r : Ref.Mem W h base n mem F) (addr z : Int) (s : Nat) (hz : z = s) (ha : 0 ≤ addr ∧ addr < 18446744073709551616) (h1 : wholeB s = true) (h2 : hasB base n addr s = true) :
    Calls Tryz.prog 36 #[.pointer (some ⟨h, 0, none⟩), .int .u64 addr, .int .i64 z] W fun e W' => e = .returned (.tuple #[.int .u64 (num mem (addr - base).toNat s), .bool true]) ∧ W = W' := by subst hz; exact Ref.read_yes r addr s ha h1 h2
set_option maxHeartbeats 4000000 in
theorem rguest_any {W : World} {h n : Nat} {base : Int} {mem : Nat → Int} {F : Nat → Prop} (r : Ref.Mem W h base n mem F) (root gpa a : Int) (hroot : U64 root) (hg : U64 gpa) :
    Calls Tryz.prog 62 #[.pointer (some ⟨h, 0, none⟩), .int .u64 root, .int .u64 gpa, .int .i64 a] W fun e W' => e = .returned (.tuple #[.int .u64 (guest base n mem root gpa a).1, .int .i64 (guest base n mem root gpa a).2.1, .int .i64 (guest base n mem root gpa a).2.2]) ∧ Below W.heap.size W W' := by
  by_cases h0 : root = 0
  · subst h0
    have E := Lib.hid (show guest base n mem 0 gpa a = (gpa, 14, 0) from if_pos rfl)
    clear r hroot hg
    go_enter Tryz.func62, Tryz.ntmps62
    go_wp2
    refine bodyPost_ret (results_tmp3 rfl _ _ _) rfl ⟨by rw [E.out]; rfl, Below.refl _ _⟩
  have d0 : (root == 0) = false := by simpa using h0
  by_cases h1 : 549755813888 ≤ gpa
  · have d1 : decide (549755813888 ≤ gpa) = true := decide_eq_true h1
    have E := Lib.hid (show guest base n mem root gpa a = (0, 0, 2) by unfold guest; rw [if_neg h0, if_pos h1])
    clear r hroot hg h0 h1
    go_enter Tryz.func62, Tryz.ntmps62
    go_wp2
    refine bodyPost_ret (results_tmp3 rfl _ _ _) rfl ⟨by rw [E.out]; rfl, Below.refl _ _⟩
  have d1 : decide (549755813888 ≤ gpa) = false := decide_eq_false h1
  have hb0 := r.size
  have hby := fun i (hi : i < n * 4096) => r.byte hi
  have HU := Lib.hid (fun t (l : Nat) => (phys_u (t := t) (i := ix gpa l) hb0.2.2.1 hby).1)
  have G := Lib.hid (show guest base n mem root gpa a = guestOf gpa a (down (phys base n mem) gpa 3 root) by unfold guest; rw [if_neg h0, if_neg h1])
  have HG := Lib.hid hg
  have R := Lib.hid r
  have HT := Lib.hid hroot
  clear r hroot hb0 hby h0 h1 hg
  go_enter Tryz.func62, Tryz.ntmps62
  go_wp2
  go_loop [11, 12, 13, 14, 15] (fun t l _ _ _ => ∃ (tv : Int) (k : Nat), k ≤ 3 ∧ t = .int .u64 tv ∧ l = .int .i64 ((k : Int) - 1) ∧ U64 tv ∧ down (phys base n mem) gpa k tv = down (phys base n mem) gpa 3 root) (fun _ l _ _ _ => (intOf l + 1).toNat)
  case atStart => exact ⟨root, 3, by decide, rfl, rfl, HT.out, rfl⟩
  case round =>
    obtain ⟨tv, k, hk, rfl, rfl, htv, hdn⟩ := hrel
    obtain hk | hk | hk | hk : k = 0 ∨ k = 1 ∨ k = 2 ∨ k = 3 := by omega
    · subst hk
      have E := Lib.hid (show guest base n mem root gpa a = (0, 0, 2) by rw [G.out, ← hdn]; rfl)
      clear hdn htv d0 d1
      go_wp2
      refine bodyPost_ret (results_tmp3 rfl _ _ _) rfl ⟨by rw [E.out]; rfl, Below.refl _ _⟩
    · subst hk
      have z0 : (((1 : Nat) : Int) - 1) = 0 := by decide
      have z1 : IntKind.i64.wrap 0 = 0 := by decide
      have z2 : IntKind.i64.wrap 12 = 12 := by decide
      have ixu := ix_u gpa 0
      obtain ⟨g0, g1⟩ := HG.out
      obtain ⟨t0, t1⟩ := htv
      have D := Lib.hid (show down (phys base n mem) gpa 3 root = (if (phys base n mem tv (ix gpa 0)).2 ≠ 0 then Res.bus (phys base n mem tv (ix gpa 0)).2 tv (ix gpa 0) else if wrongB (phys base n mem tv (ix gpa 0)).1 = true then .page else if ptr (phys base n mem tv (ix gpa 0)).1 = true then down (phys base n mem) gpa 0 (pn (phys base n mem tv (ix gpa 0)).1) else if odd (phys base n mem tv (ix gpa 0)).1 0 = true then .page else .leaf (phys base n mem tv (ix gpa 0)).1 0) from hdn.symm)
      have HUV := Lib.hid (HU.out tv 0)
      clear hdn
      rw [z0]
      clear z0
      by_cases hp : 4503599627370496 ≤ tv
      · have dp : decide (4503599627370495 < tv) = true := decide_eq_true (by omega)
        have E := Lib.hid (show guest base n mem root gpa a = (0, 0, 3) by rw [G.out, D.out, show phys base n mem tv (ix gpa 0) = (0, 3) from if_pos hp]; rfl)
        clear D HUV hp
        go_wp2
        refine bodyPost_ret (results_tmp3 rfl _ _ _) rfl ⟨by rw [E.out]; rfl, Below.refl _ _⟩
      have dp : decide (4503599627370495 < tv) = false := decide_eq_false (by omega)
      have w1 : IntKind.u64.wrap (tv * 4096) = tv * 4096 := IntWalk.u64_in _ (by omega)
      have w0 : (gpa / 4096).tmod 512 = ix gpa 0 := by rw [Int.tmod_eq_emod_of_nonneg (by omega)]; rfl
      have w0' : gpa / 4096 % 512 = ix gpa 0 := rfl
      have w2 : IntKind.u64.wrap (ix gpa 0 * 8) = 8 * ix gpa 0 := by rw [Int.mul_comm]; exact IntWalk.u64_in _ (by omega)
      have w3 : IntKind.u64.wrap (tv * 4096 + 8 * ix gpa 0) = tv * 4096 + 8 * ix gpa 0 := IntWalk.u64_in _ (by omega)
      have arange : 0 ≤ tv * 4096 + 8 * ix gpa 0 ∧ tv * 4096 + 8 * ix gpa 0 < 18446744073709551616 := by omega
      have AR := Lib.hid arange
      clear arange ixu
      cases hh : hasB base n (tv * 4096 + 8 * ix gpa 0) 8 with
      | false =>
        have E := Lib.hid (show guest base n mem root gpa a = (0, 0, 3) by rw [G.out, D.out, show phys base n mem tv (ix gpa 0) = (0, 3) by unfold phys; rw [if_neg hp, if_neg (by rw [hh]; decide)]]; rfl)
        have T := Lib.hid (Ref.read_no R.out (tv * 4096 + 8 * ix gpa 0) 8 AR.out (by omega) (by rw [hh]; rfl))
        clear D HUV hp hh
        go_wp2_with (go_at_call 36; refine (T.out).mono ?_; rintro e w1 ⟨rfl, rfl⟩)
        refine bodyPost_ret (results_tmp3 rfl _ _ _) rfl ⟨by rw [E.out]; rfl, Below.refl _ _⟩
      | true =>
        have hph : phys base n mem tv (ix gpa 0) = (num mem (tv * 4096 + 8 * ix gpa 0 - base).toNat 8, 0) := by unfold phys; rw [if_neg hp, if_pos hh]
        have T := Lib.hid (rread_z R.out (tv * 4096 + 8 * ix gpa 0) 8 8 rfl AR.out (by decide) hh)
        rw [hph] at D HUV
        clear hp hh hph
        generalize num mem (tv * 4096 + 8 * ix gpa 0 - base).toNat 8 = v at D HUV T
        have cp : (bits .and .u64 v 10 == 0) = ptr v := c_p HUV.out
        have HX := Lib.hid (show ∀ (b : Bool) (w : World), wrongB v = b → Calls Tryz.prog 92 #[.int .u64 v] w fun x w' => x = .returned (.bool b) ∧ w = w' from fun b w hb => hb ▸ rwrong_any HUV.out w)
        cases hwr : wrongB v with
        | true =>
          have E := Lib.hid (show guest base n mem root gpa a = (0, 0, 2) by rw [G.out, D.out, if_neg (fun h => h rfl), if_pos hwr]; rfl)
          have XW := Lib.hid (HX.out true · hwr)
          clear D hwr
          go_wp2_with (first
 | (go_at_call 36; refine (T.out).mono ?_; rintro e w1 ⟨rfl, rfl⟩)
 | (go_at_call 92; refine (XW.out _).mono ?_; rintro e w1 ⟨rfl, rfl⟩))
          refine bodyPost_ret (results_tmp3 rfl _ _ _) rfl ⟨by rw [E.out]; rfl, Below.refl _ _⟩
        | false =>
          have XW := Lib.hid (HX.out false · hwr)
          cases hpt : ptr v with
          | true =>
            rw [hpt] at cp
            have E := Lib.hid (show down (phys base n mem) gpa 0 (pn v) = down (phys base n mem) gpa 3 root by rw [D.out, if_neg (fun h => h rfl), if_neg (by rw [hwr]; decide), if_pos hpt])
            have TN := Lib.hid (number_any HUV.out)
            clear D hwr hpt
            go_wp2_with (first
 | (go_at_call 36; refine (T.out).mono ?_; rintro e w1 ⟨rfl, rfl⟩)
 | (go_at_call 92; refine (XW.out _).mono ?_; rintro e w1 ⟨rfl, rfl⟩)
 | (go_at_call 93; refine (TN.out _).mono ?_; rintro e w1 ⟨rfl, rfl⟩))
            exact ⟨⟨pn v, 0, by decide, rfl, rfl, ⟨(pn_u v).1, by have := (pn_u v).2; omega⟩, E.out⟩, by decide⟩
          | false =>
            rw [hpt] at cp
            have TM := Lib.hid (show ∀ (b : Bool) (w : World), odd v 0 = b → Calls Tryz.prog 94 #[.int .u64 v, .int .i64 0] w fun x w' => x = .returned (.bool b) ∧ w = w' from fun b w hb => hb ▸ misplaced_any (l := 0) (by decide) HUV.out w)
            cases hod : odd v 0 with
            | true =>
              have E := Lib.hid (show guest base n mem root gpa a = (0, 0, 2) by rw [G.out, D.out, if_neg (fun h => h rfl), if_neg (by rw [hwr]; decide), if_neg (by rw [hpt]; decide), if_pos hod]; rfl)
              have TO := Lib.hid (TM.out true · hod)
              clear D hwr hpt hod
              go_wp2_with (first
 | (go_at_call 36; refine (T.out).mono ?_; rintro e w1 ⟨rfl, rfl⟩)
 | (go_at_call 92; refine (XW.out _).mono ?_; rintro e w1 ⟨rfl, rfl⟩)
 | (go_at_call 94; refine (TO.out _).mono ?_; rintro e w1 ⟨rfl, rfl⟩))
              refine bodyPost_ret (results_tmp3 rfl _ _ _) rfl ⟨by rw [E.out]; rfl, Below.refl _ _⟩
            | false =>
              have TO := Lib.hid (TM.out false · hod)
              have TL := Lib.hid (show ∀ (b : Bool) (w : World), lets2 v a = b → Calls Tryz.prog 97 #[.int .u64 v, .int .i64 a] w fun x w' => x = .returned (.bool b) ∧ w = w' from fun b w hb => hb ▸ rlets_any HUV.out a w)
              cases hl : lets2 v a with
              | false =>
                have E := Lib.hid (show guest base n mem root gpa a = (0, 0, 2) by rw [G.out, D.out, if_neg (fun h => h rfl), if_neg (by rw [hwr]; decide), if_neg (by rw [hpt]; decide), if_neg (by rw [hod]; decide)]; exact if_neg (by rw [hl]; decide))
                have TLL := Lib.hid (TL.out false · hl)
                clear D hwr hpt hod hl
                go_wp2_with (first
 | (go_at_call 36; refine (T.out).mono ?_; rintro e w1 ⟨rfl, rfl⟩)
 | (go_at_call 92; refine (XW.out _).mono ?_; rintro e w1 ⟨rfl, rfl⟩)
 | (go_at_call 94; refine (TO.out _).mono ?_; rintro e w1 ⟨rfl, rfl⟩)
 | (go_at_call 97; refine (TLL.out _).mono ?_; rintro e w1 ⟨rfl, rfl⟩))
                refine bodyPost_ret (results_tmp3 rfl _ _ _) rfl ⟨by rw [E.out]; rfl, Below.refl _ _⟩
              | true =>
                have E := Lib.hid (show guest base n mem root gpa a = (at_ v 0 gpa, perm v, 0) by rw [G.out, D.out, if_neg (fun h => h rfl), if_neg (by rw [hwr]; decide), if_neg (by rw [hpt]; decide), if_neg (by rw [hod]; decide)]; exact if_pos hl)
                have TLL := Lib.hid (TL.out true · hl)
                have TP := Lib.hid (fun w => put_any (W := w) (l := 0) (by decide) HUV.out (show U64 gpa from HG.out))
                have a10 := and_w HUV.out
                have b4 := cn4 HUV.out
                have b7 := cn128 HUV.out
                clear D hwr hpt hod hl
                cases hb4 : bt v 2 with
                | true =>
                  cases hb7 : bt v 7 with
                  | true =>
                    rw [hb4] at b4
                    rw [hb7] at b7
                    have P := Lib.hid (show bits .or .i64 ((lo v &&& 10 : Nat) : Int) 4 = perm v from perm_r _ (lo_lt v) (show (bt v 2 && bt v 7) = true by rw [hb4, hb7]; rfl))
                    clear hb4 hb7
                    go_wp2_with (first
 | (go_at_call 36; refine (T.out).mono ?_; rintro e w1 ⟨rfl, rfl⟩)
 | (go_at_call 92; refine (XW.out _).mono ?_; rintro e w1 ⟨rfl, rfl⟩)
 | (go_at_call 94; refine (TO.out _).mono ?_; rintro e w1 ⟨rfl, rfl⟩)
 | (go_at_call 97; refine (TLL.out _).mono ?_; rintro e w1 ⟨rfl, rfl⟩)
 | (go_at_call 96; refine (TP.out _).mono ?_; rintro e w1 ⟨rfl, hb⟩; have HB := Lib.hid hb; clear hb))
                    refine bodyPost_ret (results_tmp3 rfl _ _ _) rfl ⟨by rw [E.out, ← P.out]; rfl, HB.out⟩
                  | false =>
                    rw [hb4] at b4
                    rw [hb7] at b7
                    have P := Lib.hid (show ((lo v &&& 10 : Nat) : Int) = perm v from perm_s _ (lo_lt v) (show (bt v 2 && bt v 7) = false by rw [hb4, hb7]; rfl))
                    clear hb4 hb7
                    go_wp2_with (first
 | (go_at_call 36; refine (T.out).mono ?_; rintro e w1 ⟨rfl, rfl⟩)
 | (go_at_call 92; refine (XW.out _).mono ?_; rintro e w1 ⟨rfl, rfl⟩)
 | (go_at_call 94; refine (TO.out _).mono ?_; rintro e w1 ⟨rfl, rfl⟩)
 | (go_at_call 97; refine (TLL.out _).mono ?_; rintro e w1 ⟨rfl, rfl⟩)
 | (go_at_call 96; refine (TP.out _).mono ?_; rintro e w1 ⟨rfl, hb⟩; have HB := Lib.hid hb; clear hb))
                    refine bodyPost_ret (results_tmp3 rfl _ _ _) rfl ⟨by rw [E.out, ← P.out]; rfl, HB.out⟩
                | false =>
                  cases hb7 : bt v 7 with
                  | true =>
                    rw [hb4] at b4
                    rw [hb7] at b7
                    have P := Lib.hid (show ((lo v &&& 10 : Nat) : Int) = perm v from perm_s _ (lo_lt v) (show (bt v 2 && bt v 7) = false by rw [hb4, hb7]; rfl))
                    clear hb4 hb7
                    go_wp2_with (first
 | (go_at_call 36; refine (T.out).mono ?_; rintro e w1 ⟨rfl, rfl⟩)
 | (go_at_call 92; refine (XW.out _).mono ?_; rintro e w1 ⟨rfl, rfl⟩)
 | (go_at_call 94; refine (TO.out _).mono ?_; rintro e w1 ⟨rfl, rfl⟩)
 | (go_at_call 97; refine (TLL.out _).mono ?_; rintro e w1 ⟨rfl, rfl⟩)
 | (go_at_call 96; refine (TP.out _).mono ?_; rintro e w1 ⟨rfl, hb⟩; have HB := Lib.hid hb; clear hb))
                    refine bodyPost_ret (results_tmp3 rfl _ _ _) rfl ⟨by rw [E.out, ← P.out]; rfl, HB.out⟩
                  | false =>
                    rw [hb4] at b4
                    rw [hb7] at b7
                    have P := Lib.hid (show ((lo v &&& 10 : Nat) : Int) = perm v from perm_s _ (lo_lt v) (show (bt v 2 && bt v 7) = false by rw [hb4, hb7]; rfl))
                    clear hb4 hb7
                    go_wp2_with (first
 | (go_at_call 36; refine (T.out).mono ?_; rintro e w1 ⟨rfl, rfl⟩)
 | (go_at_call 92; refine (XW.out _).mono ?_; rintro e w1 ⟨rfl, rfl⟩)
 | (go_at_call 94; refine (TO.out _).mono ?_; rintro e w1 ⟨rfl, rfl⟩)
 | (go_at_call 97; refine (TLL.out _).mono ?_; rintro e w1 ⟨rfl, rfl⟩)
 | (go_at_call 96; refine (TP.out _).mono ?_; rintro e w1 ⟨rfl, hb⟩; have HB := Lib.hid hb; clear hb))
                    refine bodyPost_ret (results_tmp3 rfl _ _ _) rfl ⟨by rw [E.out, ← P.out]; rfl, HB.out⟩
    · subst hk
      have z0 : (((2 : Nat) : Int) - 1) = 1 := by decide
      have z1 : IntKind.i64.wrap 9 = 9 := by decide
      have z2 : IntKind.i64.wrap 21 = 21 := by decide
      have ixu := ix_u gpa 1
      obtain ⟨g0, g1⟩ := HG.out
      obtain ⟨t0, t1⟩ := htv
      have D := Lib.hid (show down (phys base n mem) gpa 3 root = (if (phys base n mem tv (ix gpa 1)).2 ≠ 0 then Res.bus (phys base n mem tv (ix gpa 1)).2 tv (ix gpa 1) else if wrongB (phys base n mem tv (ix gpa 1)).1 = true then .page else if ptr (phys base n mem tv (ix gpa 1)).1 = true then down (phys base n mem) gpa 1 (pn (phys base n mem tv (ix gpa 1)).1) else if odd (phys base n mem tv (ix gpa 1)).1 1 = true then .page else .leaf (phys base n mem tv (ix gpa 1)).1 1) from hdn.symm)
      have HUV := Lib.hid (HU.out tv 1)
      clear hdn
      rw [z0]
      clear z0
      by_cases hp : 4503599627370496 ≤ tv
      · have dp : decide (4503599627370495 < tv) = true := decide_eq_true (by omega)
        have E := Lib.hid (show guest base n mem root gpa a = (0, 0, 3) by rw [G.out, D.out, show phys base n mem tv (ix gpa 1) = (0, 3) from if_pos hp]; rfl)
        clear D HUV hp
        go_wp2
        refine bodyPost_ret (results_tmp3 rfl _ _ _) rfl ⟨by rw [E.out]; rfl, Below.refl _ _⟩
      have dp : decide (4503599627370495 < tv) = false := decide_eq_false (by omega)
      have w1 : IntKind.u64.wrap (tv * 4096) = tv * 4096 := IntWalk.u64_in _ (by omega)
      have w0 : (gpa / 2097152).tmod 512 = ix gpa 1 := by rw [Int.tmod_eq_emod_of_nonneg (by omega)]; rfl
      have w0' : gpa / 2097152 % 512 = ix gpa 1 := rfl
      have w2 : IntKind.u64.wrap (ix gpa 1 * 8) = 8 * ix gpa 1 := by rw [Int.mul_comm]; exact IntWalk.u64_in _ (by omega)
      have w3 : IntKind.u64.wrap (tv * 4096 + 8 * ix gpa 1) = tv * 4096 + 8 * ix gpa 1 := IntWalk.u64_in _ (by omega)
      have arange : 0 ≤ tv * 4096 + 8 * ix gpa 1 ∧ tv * 4096 + 8 * ix gpa 1 < 18446744073709551616 := by omega
      have AR := Lib.hid arange
      clear arange ixu
      cases hh : hasB base n (tv * 4096 + 8 * ix gpa 1) 8 with
      | false =>
        have E := Lib.hid (show guest base n mem root gpa a = (0, 0, 3) by rw [G.out, D.out, show phys base n mem tv (ix gpa 1) = (0, 3) by unfold phys; rw [if_neg hp, if_neg (by rw [hh]; decide)]]; rfl)
        have T := Lib.hid (Ref.read_no R.out (tv * 4096 + 8 * ix gpa 1) 8 AR.out (by omega) (by rw [hh]; rfl))
        clear D HUV hp hh
        go_wp2_with (go_at_call 36; refine (T.out).mono ?_; rintro e w1 ⟨rfl, rfl⟩)
        refine bodyPost_ret (results_tmp3 rfl _ _ _) rfl ⟨by rw [E.out]; rfl, Below.refl _ _⟩
      | true =>
        have hph : phys base n mem tv (ix gpa 1) = (num mem (tv * 4096 + 8 * ix gpa 1 - base).toNat 8, 0) := by unfold phys; rw [if_neg hp, if_pos hh]
        have T := Lib.hid (rread_z R.out (tv * 4096 + 8 * ix gpa 1) 8 8 rfl AR.out (by decide) hh)
        rw [hph] at D HUV
        clear hp hh hph
        generalize num mem (tv * 4096 + 8 * ix gpa 1 - base).toNat 8 = v at D HUV T
        have cp : (bits .and .u64 v 10 == 0) = ptr v := c_p HUV.out
        have HX := Lib.hid (show ∀ (b : Bool) (w : World), wrongB v = b → Calls Tryz.prog 92 #[.int .u64 v] w fun x w' => x = .returned (.bool b) ∧ w = w' from fun b w hb => hb ▸ rwrong_any HUV.out w)
        cases hwr : wrongB v with
        | true =>
          have E := Lib.hid (show guest base n mem root gpa a = (0, 0, 2) by rw [G.out, D.out, if_neg (fun h => h rfl), if_pos hwr]; rfl)
          have XW := Lib.hid (HX.out true · hwr)
          clear D hwr
          go_wp2_with (first
 | (go_at_call 36; refine (T.out).mono ?_; rintro e w1 ⟨rfl, rfl⟩)
 | (go_at_call 92; refine (XW.out _).mono ?_; rintro e w1 ⟨rfl, rfl⟩))
          refine bodyPost_ret (results_tmp3 rfl _ _ _) rfl ⟨by rw [E.out]; rfl, Below.refl _ _⟩
        | false =>
          have XW := Lib.hid (HX.out false · hwr)
          cases hpt : ptr v with
          | true =>
            rw [hpt] at cp
            have E := Lib.hid (show down (phys base n mem) gpa 1 (pn v) = down (phys base n mem) gpa 3 root by rw [D.out, if_neg (fun h => h rfl), if_neg (by rw [hwr]; decide), if_pos hpt])
            have TN := Lib.hid (number_any HUV.out)
            clear D hwr hpt
            go_wp2_with (first
 | (go_at_call 36; refine (T.out).mono ?_; rintro e w1 ⟨rfl, rfl⟩)
 | (go_at_call 92; refine (XW.out _).mono ?_; rintro e w1 ⟨rfl, rfl⟩)
 | (go_at_call 93; refine (TN.out _).mono ?_; rintro e w1 ⟨rfl, rfl⟩))
            exact ⟨⟨pn v, 1, by decide, rfl, rfl, ⟨(pn_u v).1, by have := (pn_u v).2; omega⟩, E.out⟩, by decide⟩
          | false =>
            rw [hpt] at cp
            have TM := Lib.hid (show ∀ (b : Bool) (w : World), odd v 1 = b → Calls Tryz.prog 94 #[.int .u64 v, .int .i64 1] w fun x w' => x = .returned (.bool b) ∧ w = w' from fun b w hb => hb ▸ misplaced_any (l := 1) (by decide) HUV.out w)
            cases hod : odd v 1 with
            | true =>
              have E := Lib.hid (show guest base n mem root gpa a = (0, 0, 2) by rw [G.out, D.out, if_neg (fun h => h rfl), if_neg (by rw [hwr]; decide), if_neg (by rw [hpt]; decide), if_pos hod]; rfl)
              have TO := Lib.hid (TM.out true · hod)
              clear D hwr hpt hod
              go_wp2_with (first
 | (go_at_call 36; refine (T.out).mono ?_; rintro e w1 ⟨rfl, rfl⟩)
 | (go_at_call 92; refine (XW.out _).mono ?_; rintro e w1 ⟨rfl, rfl⟩)
 | (go_at_call 94; refine (TO.out _).mono ?_; rintro e w1 ⟨rfl, rfl⟩))
              refine bodyPost_ret (results_tmp3 rfl _ _ _) rfl ⟨by rw [E.out]; rfl, Below.refl _ _⟩
            | false =>
              have TO := Lib.hid (TM.out false · hod)
              have TL := Lib.hid (show ∀ (b : Bool) (w : World), lets2 v a = b → Calls Tryz.prog 97 #[.int .u64 v, .int .i64 a] w fun x w' => x = .returned (.bool b) ∧ w = w' from fun b w hb => hb ▸ rlets_any HUV.out a w)
              cases hl : lets2 v a with
              | false =>
                have E := Lib.hid (show guest base n mem root gpa a = (0, 0, 2) by rw [G.out, D.out, if_neg (fun h => h rfl), if_neg (by rw [hwr]; decide), if_neg (by rw [hpt]; decide), if_neg (by rw [hod]; decide)]; exact if_neg (by rw [hl]; decide))
                have TLL := Lib.hid (TL.out false · hl)
                clear D hwr hpt hod hl
                go_wp2_with (first
 | (go_at_call 36; refine (T.out).mono ?_; rintro e w1 ⟨rfl, rfl⟩)
 | (go_at_call 92; refine (XW.out _).mono ?_; rintro e w1 ⟨rfl, rfl⟩)
 | (go_at_call 94; refine (TO.out _).mono ?_; rintro e w1 ⟨rfl, rfl⟩)
 | (go_at_call 97; refine (TLL.out _).mono ?_; rintro e w1 ⟨rfl, rfl⟩))
                refine bodyPost_ret (results_tmp3 rfl _ _ _) rfl ⟨by rw [E.out]; rfl, Below.refl _ _⟩
              | true =>
                have E := Lib.hid (show guest base n mem root gpa a = (at_ v 1 gpa, perm v, 0) by rw [G.out, D.out, if_neg (fun h => h rfl), if_neg (by rw [hwr]; decide), if_neg (by rw [hpt]; decide), if_neg (by rw [hod]; decide)]; exact if_pos hl)
                have TLL := Lib.hid (TL.out true · hl)
                have TP := Lib.hid (fun w => put_any (W := w) (l := 1) (by decide) HUV.out (show U64 gpa from HG.out))
                have a10 := and_w HUV.out
                have b4 := cn4 HUV.out
                have b7 := cn128 HUV.out
                clear D hwr hpt hod hl
                cases hb4 : bt v 2 with
                | true =>
                  cases hb7 : bt v 7 with
                  | true =>
                    rw [hb4] at b4
                    rw [hb7] at b7
                    have P := Lib.hid (show bits .or .i64 ((lo v &&& 10 : Nat) : Int) 4 = perm v from perm_r _ (lo_lt v) (show (bt v 2 && bt v 7) = true by rw [hb4, hb7]; rfl))
                    clear hb4 hb7
                    go_wp2_with (first
 | (go_at_call 36; refine (T.out).mono ?_; rintro e w1 ⟨rfl, rfl⟩)
 | (go_at_call 92; refine (XW.out _).mono ?_; rintro e w1 ⟨rfl, rfl⟩)
 | (go_at_call 94; refine (TO.out _).mono ?_; rintro e w1 ⟨rfl, rfl⟩)
 | (go_at_call 97; refine (TLL.out _).mono ?_; rintro e w1 ⟨rfl, rfl⟩)
 | (go_at_call 96; refine (TP.out _).mono ?_; rintro e w1 ⟨rfl, hb⟩; have HB := Lib.hid hb; clear hb))
                    refine bodyPost_ret (results_tmp3 rfl _ _ _) rfl ⟨by rw [E.out, ← P.out]; rfl, HB.out⟩
                  | false =>
                    rw [hb4] at b4
                    rw [hb7] at b7
                    have P := Lib.hid (show ((lo v &&& 10 : Nat) : Int) = perm v from perm_s _ (lo_lt v) (show (bt v 2 && bt v 7) = false by rw [hb4, hb7]; rfl))
                    clear hb4 hb7
                    go_wp2_with (first
 | (go_at_call 36; refine (T.out).mono ?_; rintro e w1 ⟨rfl, rfl⟩)
 | (go_at_call 92; refine (XW.out _).mono ?_; rintro e w1 ⟨rfl, rfl⟩)
 | (go_at_call 94; refine (TO.out _).mono ?_; rintro e w1 ⟨rfl, rfl⟩)
 | (go_at_call 97; refine (TLL.out _).mono ?_; rintro e w1 ⟨rfl, rfl⟩)
 | (go_at_call 96; refine (TP.out _).mono ?_; rintro e w1 ⟨rfl, hb⟩; have HB := Lib.hid hb; clear hb))
                    refine bodyPost_ret (results_tmp3 rfl _ _ _) rfl ⟨by rw [E.out, ← P.out]; rfl, HB.out⟩
                | false =>
                  cases hb7 : bt v 7 with
                  | true =>
                    rw [hb4] at b4
                    rw [hb7] at b7
                    have P := Lib.hid (show ((lo v &&& 10 : Nat) : Int) = perm v from perm_s _ (lo_lt v) (show (bt v 2 && bt v 7) = false by rw [hb4, hb7]; rfl))
                    clear hb4 hb7
                    go_wp2_with (first
 | (go_at_call 36; refine (T.out).mono ?_; rintro e w1 ⟨rfl, rfl⟩)
 | (go_at_call 92; refine (XW.out _).mono ?_; rintro e w1 ⟨rfl, rfl⟩)
 | (go_at_call 94; refine (TO.out _).mono ?_; rintro e w1 ⟨rfl, rfl⟩)
 | (go_at_call 97; refine (TLL.out _).mono ?_; rintro e w1 ⟨rfl, rfl⟩)
 | (go_at_call 96; refine (TP.out _).mono ?_; rintro e w1 ⟨rfl, hb⟩; have HB := Lib.hid hb; clear hb))
                    refine bodyPost_ret (results_tmp3 rfl _ _ _) rfl ⟨by rw [E.out, ← P.out]; rfl, HB.out⟩
                  | false =>
                    rw [hb4] at b4
                    rw [hb7] at b7
                    have P := Lib.hid (show ((lo v &&& 10 : Nat) : Int) = perm v from perm_s _ (lo_lt v) (show (bt v 2 && bt v 7) = false by rw [hb4, hb7]; rfl))
                    clear hb4 hb7
                    go_wp2_with (first
 | (go_at_call 36; refine (T.out).mono ?_; rintro e w1 ⟨rfl, rfl⟩)
 | (go_at_call 92; refine (XW.out _).mono ?_; rintro e w1 ⟨rfl, rfl⟩)
 | (go_at_call 94; refine (TO.out _).mono ?_; rintro e w1 ⟨rfl, rfl⟩)
 | (go_at_call 97; refine (TLL.out _).mono ?_; rintro e w1 ⟨rfl, rfl⟩)
 | (go_at_call 96; refine (TP.out _).mono ?_; rintro e w1 ⟨rfl, hb⟩; have HB := Lib.hid hb; clear hb))
                    refine bodyPost_ret (results_tmp3 rfl _ _ _) rfl ⟨by rw [E.out, ← P.out]; rfl, HB.out⟩
    · subst hk
      have z0 : (((3 : Nat) : Int) - 1) = 2 := by decide
      have z1 : IntKind.i64.wrap 18 = 18 := by decide
      have z2 : IntKind.i64.wrap 30 = 30 := by decide
      have ixu := ix_u gpa 2
      obtain ⟨g0, g1⟩ := HG.out
      obtain ⟨t0, t1⟩ := htv
      have D := Lib.hid (show down (phys base n mem) gpa 3 root = (if (phys base n mem tv (ix gpa 2)).2 ≠ 0 then Res.bus (phys base n mem tv (ix gpa 2)).2 tv (ix gpa 2) else if wrongB (phys base n mem tv (ix gpa 2)).1 = true then .page else if ptr (phys base n mem tv (ix gpa 2)).1 = true then down (phys base n mem) gpa 2 (pn (phys base n mem tv (ix gpa 2)).1) else if odd (phys base n mem tv (ix gpa 2)).1 2 = true then .page else .leaf (phys base n mem tv (ix gpa 2)).1 2) from hdn.symm)
      have HUV := Lib.hid (HU.out tv 2)
      clear hdn
      rw [z0]
      clear z0
      by_cases hp : 4503599627370496 ≤ tv
      · have dp : decide (4503599627370495 < tv) = true := decide_eq_true (by omega)
        have E := Lib.hid (show guest base n mem root gpa a = (0, 0, 3) by rw [G.out, D.out, show phys base n mem tv (ix gpa 2) = (0, 3) from if_pos hp]; rfl)
        clear D HUV hp
        go_wp2
        refine bodyPost_ret (results_tmp3 rfl _ _ _) rfl ⟨by rw [E.out]; rfl, Below.refl _ _⟩
      have dp : decide (4503599627370495 < tv) = false := decide_eq_false (by omega)
      have w1 : IntKind.u64.wrap (tv * 4096) = tv * 4096 := IntWalk.u64_in _ (by omega)
      have w0 : (gpa / 1073741824).tmod 512 = ix gpa 2 := by rw [Int.tmod_eq_emod_of_nonneg (by omega)]; rfl
      have w0' : gpa / 1073741824 % 512 = ix gpa 2 := rfl
      have w2 : IntKind.u64.wrap (ix gpa 2 * 8) = 8 * ix gpa 2 := by rw [Int.mul_comm]; exact IntWalk.u64_in _ (by omega)
      have w3 : IntKind.u64.wrap (tv * 4096 + 8 * ix gpa 2) = tv * 4096 + 8 * ix gpa 2 := IntWalk.u64_in _ (by omega)
      have arange : 0 ≤ tv * 4096 + 8 * ix gpa 2 ∧ tv * 4096 + 8 * ix gpa 2 < 18446744073709551616 := by omega
      have AR := Lib.hid arange
      clear arange ixu
      cases hh : hasB base n (tv * 4096 + 8 * ix gpa 2) 8 with
      | false =>
        have E := Lib.hid (show guest base n mem root gpa a = (0, 0, 3) by rw [G.out, D.out, show phys base n mem tv (ix gpa 2) = (0, 3) by unfold phys; rw [if_neg hp, if_neg (by rw [hh]; decide)]]; rfl)
        have T := Lib.hid (Ref.read_no R.out (tv * 4096 + 8 * ix gpa 2) 8 AR.out (by omega) (by rw [hh]; rfl))
        clear D HUV hp hh
        go_wp2_with (go_at_call 36; refine (T.out).mono ?_; rintro e w1 ⟨rfl, rfl⟩)
        refine bodyPost_ret (results_tmp3 rfl _ _ _) rfl ⟨by rw [E.out]; rfl, Below.refl _ _⟩
      | true =>
        have hph : phys base n mem tv (ix gpa 2) = (num mem (tv * 4096 + 8 * ix gpa 2 - base).toNat 8, 0) := by unfold phys; rw [if_neg hp, if_pos hh]
        have T := Lib.hid (rread_z R.out (tv * 4096 + 8 * ix gpa 2) 8 8 rfl AR.out (by decide) hh)
        rw [hph] at D HUV
        clear hp hh hph
        generalize num mem (tv * 4096 + 8 * ix gpa 2 - base).toNat 8 = v at D HUV T
        have cp : (bits .and .u64 v 10 == 0) = ptr v := c_p HUV.out
        have HX := Lib.hid (show ∀ (b : Bool) (w : World), wrongB v = b → Calls Tryz.prog 92 #[.int .u64 v] w fun x w' => x = .returned (.bool b) ∧ w = w' from fun b w hb => hb ▸ rwrong_any HUV.out w)
        cases hwr : wrongB v with
        | true =>
          have E := Lib.hid (show guest base n mem root gpa a = (0, 0, 2) by rw [G.out, D.out, if_neg (fun h => h rfl), if_pos hwr]; rfl)
          have XW := Lib.hid (HX.out true · hwr)
          clear D hwr
          go_wp2_with (first
 | (go_at_call 36; refine (T.out).mono ?_; rintro e w1 ⟨rfl, rfl⟩)
 | (go_at_call 92; refine (XW.out _).mono ?_; rintro e w1 ⟨rfl, rfl⟩))
          refine bodyPost_ret (results_tmp3 rfl _ _ _) rfl ⟨by rw [E.out]; rfl, Below.refl _ _⟩
        | false =>
          have XW := Lib.hid (HX.out false · hwr)
          cases hpt : ptr v with
          | true =>
            rw [hpt] at cp
            have E := Lib.hid (show down (phys base n mem) gpa 2 (pn v) = down (phys base n mem) gpa 3 root by rw [D.out, if_neg (fun h => h rfl), if_neg (by rw [hwr]; decide), if_pos hpt])
            have TN := Lib.hid (number_any HUV.out)
            clear D hwr hpt
            go_wp2_with (first
 | (go_at_call 36; refine (T.out).mono ?_; rintro e w1 ⟨rfl, rfl⟩)
 | (go_at_call 92; refine (XW.out _).mono ?_; rintro e w1 ⟨rfl, rfl⟩)
 | (go_at_call 93; refine (TN.out _).mono ?_; rintro e w1 ⟨rfl, rfl⟩))
            exact ⟨⟨pn v, 2, by decide, rfl, rfl, ⟨(pn_u v).1, by have := (pn_u v).2; omega⟩, E.out⟩, by decide⟩
          | false =>
            rw [hpt] at cp
            have TM := Lib.hid (show ∀ (b : Bool) (w : World), odd v 2 = b → Calls Tryz.prog 94 #[.int .u64 v, .int .i64 2] w fun x w' => x = .returned (.bool b) ∧ w = w' from fun b w hb => hb ▸ misplaced_any (l := 2) (by decide) HUV.out w)
            cases hod : odd v 2 with
            | true =>
              have E := Lib.hid (show guest base n mem root gpa a = (0, 0, 2) by rw [G.out, D.out, if_neg (fun h => h rfl), if_neg (by rw [hwr]; decide), if_neg (by rw [hpt]; decide), if_pos hod]; rfl)
              have TO := Lib.hid (TM.out true · hod)
              clear D hwr hpt hod
              go_wp2_with (first
 | (go_at_call 36; refine (T.out).mono ?_; rintro e w1 ⟨rfl, rfl⟩)
 | (go_at_call 92; refine (XW.out _).mono ?_; rintro e w1 ⟨rfl, rfl⟩)
 | (go_at_call 94; refine (TO.out _).mono ?_; rintro e w1 ⟨rfl, rfl⟩))
              refine bodyPost_ret (results_tmp3 rfl _ _ _) rfl ⟨by rw [E.out]; rfl, Below.refl _ _⟩
            | false =>
              have TO := Lib.hid (TM.out false · hod)
              have TL := Lib.hid (show ∀ (b : Bool) (w : World), lets2 v a = b → Calls Tryz.prog 97 #[.int .u64 v, .int .i64 a] w fun x w' => x = .returned (.bool b) ∧ w = w' from fun b w hb => hb ▸ rlets_any HUV.out a w)
              cases hl : lets2 v a with
              | false =>
                have E := Lib.hid (show guest base n mem root gpa a = (0, 0, 2) by rw [G.out, D.out, if_neg (fun h => h rfl), if_neg (by rw [hwr]; decide), if_neg (by rw [hpt]; decide), if_neg (by rw [hod]; decide)]; exact if_neg (by rw [hl]; decide))
                have TLL := Lib.hid (TL.out false · hl)
                clear D hwr hpt hod hl
                go_wp2_with (first
 | (go_at_call 36; refine (T.out).mono ?_; rintro e w1 ⟨rfl, rfl⟩)
 | (go_at_call 92; refine (XW.out _).mono ?_; rintro e w1 ⟨rfl, rfl⟩)
 | (go_at_call 94; refine (TO.out _).mono ?_; rintro e w1 ⟨rfl, rfl⟩)
 | (go_at_call 97; refine (TLL.out _).mono ?_; rintro e w1 ⟨rfl, rfl⟩))
                refine bodyPost_ret (results_tmp3 rfl _ _ _) rfl ⟨by rw [E.out]; rfl, Below.refl _ _⟩
              | true =>
                have E := Lib.hid (show guest base n mem root gpa a = (at_ v 2 gpa, perm v, 0) by rw [G.out, D.out, if_neg (fun h => h rfl), if_neg (by rw [hwr]; decide), if_neg (by rw [hpt]; decide), if_neg (by rw [hod]; decide)]; exact if_pos hl)
                have TLL := Lib.hid (TL.out true · hl)
                have TP := Lib.hid (fun w => put_any (W := w) (l := 2) (by decide) HUV.out (show U64 gpa from HG.out))
                have a10 := and_w HUV.out
                have b4 := cn4 HUV.out
                have b7 := cn128 HUV.out
                clear D hwr hpt hod hl
                cases hb4 : bt v 2 with
                | true =>
                  cases hb7 : bt v 7 with
                  | true =>
                    rw [hb4] at b4
                    rw [hb7] at b7
                    have P := Lib.hid (show bits .or .i64 ((lo v &&& 10 : Nat) : Int) 4 = perm v from perm_r _ (lo_lt v) (show (bt v 2 && bt v 7) = true by rw [hb4, hb7]; rfl))
                    clear hb4 hb7
                    go_wp2_with (first
 | (go_at_call 36; refine (T.out).mono ?_; rintro e w1 ⟨rfl, rfl⟩)
 | (go_at_call 92; refine (XW.out _).mono ?_; rintro e w1 ⟨rfl, rfl⟩)
 | (go_at_call 94; refine (TO.out _).mono ?_; rintro e w1 ⟨rfl, rfl⟩)
 | (go_at_call 97; refine (TLL.out _).mono ?_; rintro e w1 ⟨rfl, rfl⟩)
 | (go_at_call 96; refine (TP.out _).mono ?_; rintro e w1 ⟨rfl, hb⟩; have HB := Lib.hid hb; clear hb))
                    refine bodyPost_ret (results_tmp3 rfl _ _ _) rfl ⟨by rw [E.out, ← P.out]; rfl, HB.out⟩
                  | false =>
                    rw [hb4] at b4
                    rw [hb7] at b7
                    have P := Lib.hid (show ((lo v &&& 10 : Nat) : Int) = perm v from perm_s _ (lo_lt v) (show (bt v 2 && bt v 7) = false by rw [hb4, hb7]; rfl))
                    clear hb4 hb7
                    go_wp2_with (first
 | (go_at_call 36; refine (T.out).mono ?_; rintro e w1 ⟨rfl, rfl⟩)
 | (go_at_call 92; refine (XW.out _).mono ?_; rintro e w1 ⟨rfl, rfl⟩)
 | (go_at_call 94; refine (TO.out _).mono ?_; rintro e w1 ⟨rfl, rfl⟩)
 | (go_at_call 97; refine (TLL.out _).mono ?_; rintro e w1 ⟨rfl, rfl⟩)
 | (go_at_call 96; refine (TP.out _).mono ?_; rintro e w1 ⟨rfl, hb⟩; have HB := Lib.hid hb; clear hb))
                    refine bodyPost_ret (results_tmp3 rfl _ _ _) rfl ⟨by rw [E.out, ← P.out]; rfl, HB.out⟩
                | false =>
                  cases hb7 : bt v 7 with
                  | true =>
                    rw [hb4] at b4
                    rw [hb7] at b7
                    have P := Lib.hid (show ((lo v &&& 10 : Nat) : Int) = perm v from perm_s _ (lo_lt v) (show (bt v 2 && bt v 7) = false by rw [hb4, hb7]; rfl))
                    clear hb4 hb7
                    go_wp2_with (first
 | (go_at_call 36; refine (T.out).mono ?_; rintro e w1 ⟨rfl, rfl⟩)
 | (go_at_call 92; refine (XW.out _).mono ?_; rintro e w1 ⟨rfl, rfl⟩)
 | (go_at_call 94; refine (TO.out _).mono ?_; rintro e w1 ⟨rfl, rfl⟩)
 | (go_at_call 97; refine (TLL.out _).mono ?_; rintro e w1 ⟨rfl, rfl⟩)
 | (go_at_call 96; refine (TP.out _).mono ?_; rintro e w1 ⟨rfl, hb⟩; have HB := Lib.hid hb; clear hb))
                    refine bodyPost_ret (results_tmp3 rfl _ _ _) rfl ⟨by rw [E.out, ← P.out]; rfl, HB.out⟩
                  | false =>
                    rw [hb4] at b4
                    rw [hb7] at b7
                    have P := Lib.hid (show ((lo v &&& 10 : Nat) : Int) = perm v from perm_s _ (lo_lt v) (show (bt v 2 && bt v 7) = false by rw [hb4, hb7]; rfl))
                    clear hb4 hb7
                    go_wp2_with (first
 | (go_at_call 36; refine (T.out).mono ?_; rintro e w1 ⟨rfl, rfl⟩)
 | (go_at_call 92; refine (XW.out _).mono ?_; rintro e w1 ⟨rfl, rfl⟩)
 | (go_at_call 94; refine (TO.out _).mono ?_; rintro e w1 ⟨rfl, rfl⟩)
 | (go_at_call 97; refine (TLL.out _).mono ?_; rintro e w1 ⟨rfl, rfl⟩)
 | (go_at_call 96; refine (TP.out _).mono ?_; rintro e w1 ⟨rfl, hb⟩; have HB := Lib.hid hb; clear hb))
                    refine bodyPost_ret (results_tmp3 rfl _ _ _) rfl ⟨by rw [E.out, ← P.out]; rfl, HB.out⟩
end Go.Proofs.YtchpnbckgofiaaaGreat.Tab
end
section
namespace Go.Proofs.YtchpnbckgofiaaaGreat.Tab
open Go Go.RowKit Go.Proofs.YtchpnbckgofiaaaGreat.Step Go.Proofs.YtchpnbckgofiaaaGreat.Mem
set_option linter.unusedVariables false
set_option linter.unusedSimpArgs false
set_option maxRecDepth 100000
set_option maxHeartbeats 4000000 in
theorem rfirst_any {leaf : Int} (h : U64 leaf) (satp root : Value) (user sum mxr : Bool) (a : Int) (W : World) :
    Calls Tryz.prog 95 #[.int .u64 leaf, .agg #[satp, root, .bool user, .bool sum, .bool mxr], .int .i64 a] W fun x w' => x = .returned (.bool (lets1 user sum mxr leaf a)) ∧ Below W.heap.size W w' := by
  have T1 := cn16 h
  have T2 := cn64 h
  have T3 := cn8 h
  have T4 := cn2 h
  have T5 := cn4 h
  have T6 := cn128 h
  have hu := Tryz.underlying82
  have E : lets1 user sum mxr leaf a = (!((user && !bt leaf 4) || (!user && bt leaf 4 && (decide (a = 1) || !sum))) && bt leaf 6 && (if a = 1 then bt leaf 3 else if a = 2 then bt leaf 1 || (mxr && bt leaf 3) else if a = 3 then bt leaf 2 && bt leaf 7 else false)) := rfl
  generalize lets1 user sum mxr leaf a = res at E
  generalize bt leaf 4 = b4 at T1 E
  generalize bt leaf 6 = b6 at T2 E
  generalize bt leaf 3 = b3 at T3 E
  generalize bt leaf 1 = b1 at T4 E
  generalize bt leaf 2 = b2 at T5 E
  generalize bt leaf 7 = b7 at T6 E
  clear h
  by_cases a1 : a = 1
  · subst a1
    have EE := Lib.hid E
    clear E T4 T5 T6
    cases user <;> cases b4 <;> cases sum <;> cases b3 <;> (go_enter Tryz.func95, Tryz.ntmps95; go_wp2; go_ret; exact ⟨by rw [EE.out]; first | rfl | (cases b6 <;> rfl), alloc_below _ _⟩)
  by_cases a2 : a = 2
  · subst a2
    have EE := Lib.hid E
    clear E a1 T5 T6
    cases user <;> cases b4 <;> cases sum <;> cases b1 <;> cases mxr <;> cases b3 <;> (go_enter Tryz.func95, Tryz.ntmps95; go_wp2; go_ret; exact ⟨by rw [EE.out]; first | rfl | (cases b6 <;> rfl), alloc_below _ _⟩)
  by_cases a3 : a = 3
  · subst a3
    have EE := Lib.hid E
    clear E a1 a2 T3 T4
    cases user <;> cases b4 <;> cases sum <;> cases b2 <;> cases b7 <;> (go_enter Tryz.func95, Tryz.ntmps95; go_wp2; go_ret; exact ⟨by rw [EE.out]; first | rfl | (cases b6 <;> rfl), alloc_below _ _⟩)
  have d1 : (a == 1) = false := by simpa using a1
  have d2 : (a == 2) = false := by simpa using a2
  have d3 : (a == 3) = false := by simpa using a3
  rw [if_neg a1, if_neg a2, if_neg a3, Bool.and_false] at E
  have EE := Lib.hid E
  clear E a1 a2 a3 T3 T4 T5 T6
  cases user <;> cases b4 <;> cases sum <;> (go_enter Tryz.func95, Tryz.ntmps95; go_wp2; go_ret; exact ⟨by rw [EE.out]; first | rfl | (cases b6 <;> rfl), alloc_below _ _⟩)
end Go.Proofs.YtchpnbckgofiaaaGreat.Tab
end
section
namespace Go.Proofs.YtchpnbckgofiaaaGreat.Tab
open Go Go.RowKit Go.Proofs.YtchpnbckgofiaaaGreat.Step Go.Proofs.YtchpnbckgofiaaaGreat.Mem
set_option linter.unusedVariables false
set_option linter.unusedSimpArgs false
set_option maxRecDepth 100000
theorem c_o0 {v : Int} (h : U64 v) : (bits .and .u64 (v / 1024) 0 != 0) = odd v 0 := by
  have e : bits .and .u64 (v / 1024) 0 = v / 1024 % 1 := and_mask 0 ⟨by have := h.1; omega, by have := h.2; omega⟩ (by decide)
  have e2 : odd v 0 = false := decide_eq_false (by omega)
  rw [e, e2]; simp
theorem c_o1 {v : Int} (h : U64 v) : (bits .and .u64 (v / 1024) 511 != 0) = odd v 1 := by
  have e : bits .and .u64 (v / 1024) 511 = v / 1024 % 512 := and_mask 9 ⟨by have := h.1; omega, by have := h.2; omega⟩ (by decide)
  have e2 : odd v 1 = decide (v / 1024 % 512 ≠ 0) := decide_eq_decide.2 (by show pn v % 512 ≠ 0 ↔ _; unfold pn; omega)
  rw [e, e2]
  by_cases g : v / 1024 % 512 = 0 <;> simp [g]
theorem c_o2 {v : Int} (h : U64 v) : (bits .and .u64 (v / 1024) 262143 != 0) = odd v 2 := by
  have e : bits .and .u64 (v / 1024) 262143 = v / 1024 % 262144 := and_mask 18 ⟨by have := h.1; omega, by have := h.2; omega⟩ (by decide)
  have e2 : odd v 2 = decide (v / 1024 % 262144 ≠ 0) := decide_eq_decide.2 (by show pn v % 262144 ≠ 0 ↔ _; unfold pn; omega)
  rw [e, e2]
  by_cases g : v / 1024 % 262144 = 0 <;> simp [g]
/-- A scope that begins, comes to its one label, and may jump back to it. -/
theorem scope_label {P : Program} {a : Act} {w : World} {Q : Exit → Act → World → Prop} {pre rest : Code} (l : Nat) (J : Act → World → Prop) (μ : Act → World → Nat) (hf : findLabel (pre.seq ((Code.label l).seq rest)) l = some (Code.skip.seq rest))
    (first : pre.wp P (Exit.then J (fun _ _ _ => False)) a w)
    (pass : ∀ a w, J a w → rest.wp P (Exit.jump l (fun a' w' => J a' w' ∧ μ a' w' < μ a w) Q) a w) : (Code.scope (pre.seq ((Code.label l).seq rest))).wp P Q a w := by
  refine wp_scope_jumps l J μ hf (wp_seq (Code.wp_mono ?_ first)) (fun a w h => wp_seq (wp_skip (pass a w h)))
  intro e a' w' h
  cases e with
  | normal =>
    refine wp_seq (wp_label (Code.wp_mono ?_ (pass a' w' h)))
    intro e2 a2 w2 h2
    cases e2 with
    | goto l' => exact ⟨h2.1, h2.2.1⟩
    | _ => exact h2
  | _ => exact h.elim
/-- What the structure of a walk holds: the closure, and cells beside the leaf and the level. -/
structure Wk (W : World) (g : Nat) (cs : Array Value) (T : TypeId) (f : Value) (lev : Int) : Prop where
  blk : Blk W g cs T
  read : cs[0]? = some f
  leaf : ∃ v, cs[1]? = some (.int .u64 v)
  level : cs[2]? = some (.int .i64 lev)
/-- The level that stands there. -/
def lev2 (g : Nat) (w : World) : Nat := match w.cell? ⟨g, 2, none⟩ with | some v => (intOf v).toNat | none => 0
theorem lev2_of {g : Nat} {w : World} {v : Value} (h : w.cell? ⟨g, 2, none⟩ = some v) : lev2 g w = (intOf v).toNat := by unfold lev2; rw [h]
/-- The same cells but the leaf and the level. -/
def Like (cs cs' : Array Value) : Prop := cs'.size = cs.size ∧ ∀ i, i ≠ 1 → i ≠ 2 → cs'[i]? = cs[i]?
theorem Like.refl (cs : Array Value) : Like cs cs := ⟨rfl, fun _ _ _ => rfl⟩
theorem Like.set {cs cs' : Array Value} (h : Like cs cs') {i : Nat} (hi : i = 1 ∨ i = 2) (v : Value) : Like cs (cs'.setIfInBounds i v) :=
  ⟨by simpa using h.1, fun k h1 h2 => by rw [Array.getElem?_setIfInBounds_ne (by omega)]; exact h.2 k h1 h2⟩
end Go.Proofs.YtchpnbckgofiaaaGreat.Tab
end
