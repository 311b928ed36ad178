/- The entries' little functions: wrong, has, place, of the program (written by genpagea.py). -/
import Derived.Test.YtfoocpcpljlndaaTab
import Derived.BigQuiet
namespace Go.Proofs.Ytfoocpcpljlndaa.Tab
open Go Go.RowKit Go.Proofs.Ytfoocpcpljlndaa.Step Go.Proofs.Ytfoocpcpljlndaa.Mem
set_option linter.unusedVariables false
set_option linter.unusedSimpArgs false
set_option maxRecDepth 100000

def hasN (e : Int) (c : Nat) : Bool := (((lo e &&& c : Nat) : Int) == (c : Int))
theorem fe1 : ∀ k, k < 256 → (((k &&& 1 : Nat) : Int) == 0) = !k.testBit 0 := by decide +kernel
theorem fn1 : ∀ k, k < 256 → (((k &&& 1 : Nat) : Int) != 0) = k.testBit 0 := by decide +kernel
theorem ce1 {e : Int} (h : U64 e) : (bits .and .u64 e 1 == 0) = !bt e 0 := by rw [show (1 : Int) = ((1 : Nat) : Int) from rfl, and_lo 1 h (by decide)]; exact fe1 _ (lo_lt e)
theorem cn1 {e : Int} (h : U64 e) : (bits .and .u64 e 1 != 0) = bt e 0 := by rw [show (1 : Int) = ((1 : Nat) : Int) from rfl, and_lo 1 h (by decide)]; exact fn1 _ (lo_lt e)
theorem fe2 : ∀ k, k < 256 → (((k &&& 2 : Nat) : Int) == 0) = !k.testBit 1 := by decide +kernel
theorem fn2 : ∀ k, k < 256 → (((k &&& 2 : Nat) : Int) != 0) = k.testBit 1 := by decide +kernel
theorem ce2 {e : Int} (h : U64 e) : (bits .and .u64 e 2 == 0) = !bt e 1 := by rw [show (2 : Int) = ((2 : Nat) : Int) from rfl, and_lo 2 h (by decide)]; exact fe2 _ (lo_lt e)
theorem cn2 {e : Int} (h : U64 e) : (bits .and .u64 e 2 != 0) = bt e 1 := by rw [show (2 : Int) = ((2 : Nat) : Int) from rfl, and_lo 2 h (by decide)]; exact fn2 _ (lo_lt e)
theorem fe4 : ∀ k, k < 256 → (((k &&& 4 : Nat) : Int) == 0) = !k.testBit 2 := by decide +kernel
theorem fn4 : ∀ k, k < 256 → (((k &&& 4 : Nat) : Int) != 0) = k.testBit 2 := by decide +kernel
theorem ce4 {e : Int} (h : U64 e) : (bits .and .u64 e 4 == 0) = !bt e 2 := by rw [show (4 : Int) = ((4 : Nat) : Int) from rfl, and_lo 4 h (by decide)]; exact fe4 _ (lo_lt e)
theorem cn4 {e : Int} (h : U64 e) : (bits .and .u64 e 4 != 0) = bt e 2 := by rw [show (4 : Int) = ((4 : Nat) : Int) from rfl, and_lo 4 h (by decide)]; exact fn4 _ (lo_lt e)
theorem fe8 : ∀ k, k < 256 → (((k &&& 8 : Nat) : Int) == 0) = !k.testBit 3 := by decide +kernel
theorem fn8 : ∀ k, k < 256 → (((k &&& 8 : Nat) : Int) != 0) = k.testBit 3 := by decide +kernel
theorem ce8 {e : Int} (h : U64 e) : (bits .and .u64 e 8 == 0) = !bt e 3 := by rw [show (8 : Int) = ((8 : Nat) : Int) from rfl, and_lo 8 h (by decide)]; exact fe8 _ (lo_lt e)
theorem cn8 {e : Int} (h : U64 e) : (bits .and .u64 e 8 != 0) = bt e 3 := by rw [show (8 : Int) = ((8 : Nat) : Int) from rfl, and_lo 8 h (by decide)]; exact fn8 _ (lo_lt e)
theorem fe16 : ∀ k, k < 256 → (((k &&& 16 : Nat) : Int) == 0) = !k.testBit 4 := by decide +kernel
theorem fn16 : ∀ k, k < 256 → (((k &&& 16 : Nat) : Int) != 0) = k.testBit 4 := by decide +kernel
theorem ce16 {e : Int} (h : U64 e) : (bits .and .u64 e 16 == 0) = !bt e 4 := by rw [show (16 : Int) = ((16 : Nat) : Int) from rfl, and_lo 16 h (by decide)]; exact fe16 _ (lo_lt e)
theorem cn16 {e : Int} (h : U64 e) : (bits .and .u64 e 16 != 0) = bt e 4 := by rw [show (16 : Int) = ((16 : Nat) : Int) from rfl, and_lo 16 h (by decide)]; exact fn16 _ (lo_lt e)
theorem fe64 : ∀ k, k < 256 → (((k &&& 64 : Nat) : Int) == 0) = !k.testBit 6 := by decide +kernel
theorem fn64 : ∀ k, k < 256 → (((k &&& 64 : Nat) : Int) != 0) = k.testBit 6 := by decide +kernel
theorem ce64 {e : Int} (h : U64 e) : (bits .and .u64 e 64 == 0) = !bt e 6 := by rw [show (64 : Int) = ((64 : Nat) : Int) from rfl, and_lo 64 h (by decide)]; exact fe64 _ (lo_lt e)
theorem cn64 {e : Int} (h : U64 e) : (bits .and .u64 e 64 != 0) = bt e 6 := by rw [show (64 : Int) = ((64 : Nat) : Int) from rfl, and_lo 64 h (by decide)]; exact fn64 _ (lo_lt e)
theorem fe128 : ∀ k, k < 256 → (((k &&& 128 : Nat) : Int) == 0) = !k.testBit 7 := by decide +kernel
theorem fn128 : ∀ k, k < 256 → (((k &&& 128 : Nat) : Int) != 0) = k.testBit 7 := by decide +kernel
theorem ce128 {e : Int} (h : U64 e) : (bits .and .u64 e 128 == 0) = !bt e 7 := by rw [show (128 : Int) = ((128 : Nat) : Int) from rfl, and_lo 128 h (by decide)]; exact fe128 _ (lo_lt e)
theorem cn128 {e : Int} (h : U64 e) : (bits .and .u64 e 128 != 0) = bt e 7 := by rw [show (128 : Int) = ((128 : Nat) : Int) from rfl, and_lo 128 h (by decide)]; exact fn128 _ (lo_lt e)
theorem f_w : ∀ k, k < 256 → (((k &&& 6 : Nat) : Int) == 4) = (k.testBit 2 && !k.testBit 1) := by decide +kernel
theorem f_p : ∀ k, k < 256 → (((k &&& 10 : Nat) : Int) == 0) = (!k.testBit 1 && !k.testBit 3) := by decide +kernel
theorem c_w {e : Int} (h : U64 e) : (bits .and .u64 e 6 == 4) = (bt e 2 && !bt e 1) := by rw [show (6 : Int) = ((6 : Nat) : Int) from rfl, and_lo 6 h (by decide)]; exact f_w _ (lo_lt e)
theorem c_p {e : Int} (h : U64 e) : (bits .and .u64 e 10 == 0) = ptr e := by rw [show (10 : Int) = ((10 : Nat) : Int) from rfl, and_lo 10 h (by decide)]; exact f_p _ (lo_lt e)
theorem c_h {e : Int} (h : U64 e) : (e / 18014398509481984 != 0) = decide (18014398509481984 ≤ e) := by
  have := h.1
  by_cases g : 18014398509481984 ≤ e
  · rw [decide_eq_true g]; simp; omega
  · rw [decide_eq_false g]; simp; omega
theorem c_m2 {e : Int} (h : U64 e) : (e.tmod 2 == 0) = !bt e 0 := by
  obtain ⟨E, rfl⟩ := Int.eq_ofNat_of_zero_le h.1
  have h1 : bt (E : Int) 0 = decide (E % 2 = 1) := by
    unfold bt lo
    rw [Int.toNat_natCast, Nat.testBit_zero]
    exact decide_eq_decide.2 (by omega)
  rw [h1, Int.tmod_eq_emod_of_nonneg (by omega)]
  by_cases g : E % 2 = 1
  · rw [decide_eq_true g]; simp; omega
  · rw [decide_eq_false g]; simp; omega
theorem fh88 : ∀ k, k < 256 → (((k &&& 88 : Nat) : Int) == ((88 : Nat) : Int)) = (k.testBit 4 && k.testBit 6 && k.testBit 3) := by decide +kernel
theorem has88 (e : Int) : hasN e 88 = (bt e 4 && bt e 6 && bt e 3) := fh88 _ (lo_lt e)
theorem fh82 : ∀ k, k < 256 → (((k &&& 82 : Nat) : Int) == ((82 : Nat) : Int)) = (k.testBit 4 && k.testBit 6 && k.testBit 1) := by decide +kernel
theorem has82 (e : Int) : hasN e 82 = (bt e 4 && bt e 6 && bt e 1) := fh82 _ (lo_lt e)
theorem fh212 : ∀ k, k < 256 → (((k &&& 212 : Nat) : Int) == ((212 : Nat) : Int)) = (k.testBit 4 && k.testBit 6 && (k.testBit 2 && k.testBit 7)) := by decide +kernel
theorem has212 (e : Int) : hasN e 212 = (bt e 4 && bt e 6 && (bt e 2 && bt e 7)) := fh212 _ (lo_lt e)
theorem fh132 : ∀ k, k < 256 → (((k &&& 132 : Nat) : Int) == ((132 : Nat) : Int)) = (k.testBit 2 && k.testBit 7) := by decide +kernel
theorem has132 (e : Int) : hasN e 132 = (bt e 2 && bt e 7) := fh132 _ (lo_lt e)
theorem fh2 : ∀ k, k < 256 → (((k &&& 2 : Nat) : Int) == ((2 : Nat) : Int)) = (k.testBit 1) := by decide +kernel
theorem has2 (e : Int) : hasN e 2 = (bt e 1) := fh2 _ (lo_lt e)
theorem fh8 : ∀ k, k < 256 → (((k &&& 8 : Nat) : Int) == ((8 : Nat) : Int)) = (k.testBit 3) := by decide +kernel
theorem has8 (e : Int) : hasN e 8 = (bt e 3) := fh8 _ (lo_lt e)
theorem fh16 : ∀ k, k < 256 → (((k &&& 16 : Nat) : Int) == ((16 : Nat) : Int)) = (k.testBit 4) := by decide +kernel
theorem has16 (e : Int) : hasN e 16 = (bt e 4) := fh16 _ (lo_lt e)
theorem fh64 : ∀ k, k < 256 → (((k &&& 64 : Nat) : Int) == ((64 : Nat) : Int)) = (k.testBit 6) := by decide +kernel
theorem has64 (e : Int) : hasN e 64 = (bt e 6) := fh64 _ (lo_lt e)
theorem fh128 : ∀ k, k < 256 → (((k &&& 128 : Nat) : Int) == ((128 : Nat) : Int)) = (k.testBit 7) := by decide +kernel
theorem has128 (e : Int) : hasN e 128 = (bt e 7) := fh128 _ (lo_lt e)

set_option maxHeartbeats 1000000 in
theorem wrong_any {e : Int} (h : U64 e) (w : World) : Calls Try.prog 55 #[.int .u64 e] w fun x w' => x = .returned (.bool (wrongB e)) ∧ w = w' := by
  have c1 := ce1 h
  have c2 := c_w h
  have c3 := c_h h
  have E : wrongB e = (!bt e 0 || (bt e 2 && !bt e 1) || decide (18014398509481984 ≤ e)) := rfl
  generalize bt e 0 = b0 at c1 E
  generalize (bt e 2 && !bt e 1) = b1 at c2 E
  generalize decide (18014398509481984 ≤ e) = b2 at c3 E
  have EE := Lib.hid E
  clear E h
  cases b0 <;> cases b1 <;> cases b2 <;> (simp only [Bool.not_true, Bool.not_false] at c1 c2 c3; go_enter Try.func55, Try.ntmps55; go_wp2; go_ret; exact ⟨by rw [EE.out]; rfl, rfl⟩)

theorem has_z {W : World} {g : Nat} {leaf : Int} (c1 : W.cell? ⟨g, 1, none⟩ = some (.int .u64 leaf)) (h : U64 leaf) (z : Int) (c : Nat) (hz : z = c) (hc : c < 256) :
    Calls Try.prog 43 #[.pointer (some ⟨g, 0, none⟩), .int .u64 z] W fun x w' => x = .returned (.bool (hasN leaf c)) ∧ W = w' := by
  have E := Lib.hid (show (bits .and .u64 leaf z == z) = hasN leaf c by rw [hz, and_lo c h hc]; rfl)
  clear hz hc h
  go_enter Try.func43, Try.ntmps43
  go_wp2
  go_ret
  exact ⟨by rw [← E.out]; rfl, rfl⟩

set_option maxHeartbeats 1000000 in
theorem place_0 {W : World} {g : Nat} {leaf addr : Int} (c1 : W.cell? ⟨g, 1, none⟩ = some (.int .u64 leaf)) (c2 : W.cell? ⟨g, 2, none⟩ = some (.int .i64 0)) (h : U64 leaf) (ha : U64 addr) (ho : odd leaf 0 = false) :
    Calls Try.prog 44 #[.pointer (some ⟨g, 0, none⟩), .int .u64 addr] W fun x w' => x = .returned (.int .u64 (at_ leaf 0 addr)) ∧ ∃ k, w' = W.drewN k := by
  have p1 := pn_u leaf
  have h1 : bits .and .u64 (leaf / 1024) 17592186044415 = pn leaf := and_mask 44 ⟨by have := h.1; omega, by have := h.2; omega⟩ (by decide)
  have h2 : IntKind.u64.wrap (pn leaf * 4096) = pn leaf * 4096 := IntWalk.u64_in _ (by omega)
  have h3 : bits .and .u64 addr 4095 = addr % 4096 := and_mask 12 ha (by decide)
  have h5 : pn leaf % 1 = 0 := by omega
  have h4 : bits .or .u64 (pn leaf * 4096) (addr % 4096) = at_ leaf 0 addr := or_add 12 ⟨by omega, by omega⟩ (by show pn leaf * 4096 % 4096 = 0; omega) (by show 0 ≤ addr % 4096 ∧ addr % 4096 < 4096; omega) (by omega)
  clear h ha ho h5 p1
  go_enter Try.func44, Try.ntmps44
  go_wp2
  go_quiet (fail)
  go_wp2
  go_ret
  exact ⟨rfl, _, rfl⟩

set_option maxHeartbeats 1000000 in
theorem place_1 {W : World} {g : Nat} {leaf addr : Int} (c1 : W.cell? ⟨g, 1, none⟩ = some (.int .u64 leaf)) (c2 : W.cell? ⟨g, 2, none⟩ = some (.int .i64 1)) (h : U64 leaf) (ha : U64 addr) (ho : odd leaf 1 = false) :
    Calls Try.prog 44 #[.pointer (some ⟨g, 0, none⟩), .int .u64 addr] W fun x w' => x = .returned (.int .u64 (at_ leaf 1 addr)) ∧ ∃ k, w' = W.drewN k := by
  have p1 := pn_u leaf
  have h1 : bits .and .u64 (leaf / 1024) 17592186044415 = pn leaf := and_mask 44 ⟨by have := h.1; omega, by have := h.2; omega⟩ (by decide)
  have h2 : IntKind.u64.wrap (pn leaf * 4096) = pn leaf * 4096 := IntWalk.u64_in _ (by omega)
  have h3 : bits .and .u64 addr 2097151 = addr % 2097152 := and_mask 21 ha (by decide)
  have h5 : pn leaf % 512 = 0 := by have := of_decide_eq_false ho; simpa using this
  have h4 : bits .or .u64 (pn leaf * 4096) (addr % 2097152) = at_ leaf 1 addr := or_add 21 ⟨by omega, by omega⟩ (by show pn leaf * 4096 % 2097152 = 0; omega) (by show 0 ≤ addr % 2097152 ∧ addr % 2097152 < 2097152; omega) (by omega)
  clear h ha ho h5 p1
  go_enter Try.func44, Try.ntmps44
  go_wp2
  go_quiet (fail)
  go_wp2
  go_ret
  exact ⟨rfl, _, rfl⟩

set_option maxHeartbeats 1000000 in
theorem place_2 {W : World} {g : Nat} {leaf addr : Int} (c1 : W.cell? ⟨g, 1, none⟩ = some (.int .u64 leaf)) (c2 : W.cell? ⟨g, 2, none⟩ = some (.int .i64 2)) (h : U64 leaf) (ha : U64 addr) (ho : odd leaf 2 = false) :
    Calls Try.prog 44 #[.pointer (some ⟨g, 0, none⟩), .int .u64 addr] W fun x w' => x = .returned (.int .u64 (at_ leaf 2 addr)) ∧ ∃ k, w' = W.drewN k := by
  have p1 := pn_u leaf
  have h1 : bits .and .u64 (leaf / 1024) 17592186044415 = pn leaf := and_mask 44 ⟨by have := h.1; omega, by have := h.2; omega⟩ (by decide)
  have h2 : IntKind.u64.wrap (pn leaf * 4096) = pn leaf * 4096 := IntWalk.u64_in _ (by omega)
  have h3 : bits .and .u64 addr 1073741823 = addr % 1073741824 := and_mask 30 ha (by decide)
  have h5 : pn leaf % 262144 = 0 := by have := of_decide_eq_false ho; simpa using this
  have h4 : bits .or .u64 (pn leaf * 4096) (addr % 1073741824) = at_ leaf 2 addr := or_add 30 ⟨by omega, by omega⟩ (by show pn leaf * 4096 % 1073741824 = 0; omega) (by show 0 ≤ addr % 1073741824 ∧ addr % 1073741824 < 1073741824; omega) (by omega)
  clear h ha ho h5 p1
  go_enter Try.func44, Try.ntmps44
  go_wp2
  go_quiet (fail)
  go_wp2
  go_ret
  exact ⟨rfl, _, rfl⟩

theorem place_any {W : World} {g l : Nat} {leaf addr : Int} (hl : l ≤ 2) (c1 : W.cell? ⟨g, 1, none⟩ = some (.int .u64 leaf)) (c2 : W.cell? ⟨g, 2, none⟩ = some (.int .i64 l)) (h : U64 leaf) (ha : U64 addr) (ho : odd leaf l = false) :
    Calls Try.prog 44 #[.pointer (some ⟨g, 0, none⟩), .int .u64 addr] W fun x w' => x = .returned (.int .u64 (at_ leaf l addr)) ∧ ∃ k, w' = W.drewN k := by
  obtain e | e | e : l = 0 ∨ l = 1 ∨ l = 2 := by omega
  · subst e; exact place_0 c1 c2 h ha ho
  · subst e; exact place_1 c1 c2 h ha ho
  · subst e; exact place_2 c1 c2 h ha ho
end Go.Proofs.Ytfoocpcpljlndaa.Tab
