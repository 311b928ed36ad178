/- Parts of the walks and laws for the claim: CsrB; no conditions beyond the theorems' own. -/
import Derived.Test.YthkodjkkcgdmfaaGreatV23
section
namespace Go.Proofs.YthkodjkkcgdmfaaGreat.Hart
open Go Go.RowKit Go.Proofs.YthkodjkkcgdmfaaGreat.Step Go.Proofs.YthkodjkkcgdmfaaGreat.Enc Go.Proofs.YthkodjkkcgdmfaaGreat.Kn
set_option linter.unusedVariables false
set_option linter.unusedSimpArgs false
set_option maxRecDepth 100000
abbrev bt (v m : Int) : Bool := v / m % 2 == 1
/-- What a register's writing makes of a hart in order. -/
def wrH (h : Hrt) (c v : Int) : Hrt × Bool :=
  if h.user = true then (h, false) else if c = 256 then (ord { h with on := bt v 2, spie := bt v 32, spp := bt v 256, sum := bt v 262144, mxr := bt v 524288 }, true) else if c = 260 then (ord { h with sie := v }, true) else if c = 261 then (ord { h with stvec := v }, true) else if c = 320 then (ord { h with sscr := v }, true) else if c = 321 then (ord { h with sepc := v }, true) else if c = 322 then (ord { h with scause := v }, true) else if c = 323 then (ord { h with stval := v }, true) else if c = 324 then (ord { h with sip := bits .or .u64 (bits .andNot .u64 h.sip 2) (bits .and .u64 v 2) }, true) else if c = 384 then (ord (if v / 1152921504606846976 = 0 ∨ v / 1152921504606846976 = 8 then { h with satp := v } else h), true) else (h, false)
theorem bit_ne {v : Int} (h : U64 v) (s : Nat) (m : Int) (hm : m = (2 ^ s : Nat)) (hs : s < 64) : (bits .and .u64 v m != 0) = bt v m := by
  have hh := h.out
  obtain ⟨A, rfl⟩ := Int.eq_ofNat_of_zero_le hh.1
  subst hm
  have hp : 2 ^ s < 18446744073709551616 := Nat.pow_lt_pow_right (by decide) hs
  have e := u64_and_nat A (2 ^ s) (by omega) hp
  have e2 : bits .and .u64 (A : Int) ((2 ^ s : Nat) : Int) = ((A &&& 2 ^ s : Nat) : Int) := e
  have e3 : A &&& 2 ^ s = if A.testBit s then 2 ^ s else 0 := by
    apply Nat.eq_of_testBit_eq
    intro i
    rw [Nat.testBit_and, Nat.testBit_two_pow]
    by_cases hi : s = i
    · subst hi; cases A.testBit s <;> simp [Nat.testBit_two_pow]
    · cases A.testBit s <;> simp [hi, Nat.testBit_two_pow]
  have e4 : ((A : Int) / ((2 ^ s : Nat) : Int) % 2) = (((A.testBit s).toNat : Nat) : Int) := by
    rw [Nat.testBit_eq_decide_div_mod_eq, ← Int.natCast_ediv]
    have : A / 2 ^ s % 2 < 2 := Nat.mod_lt _ (by decide)
    by_cases hq : A / 2 ^ s % 2 = 1
    · rw [decide_eq_true hq]; show _ = (1 : Int); omega
    · rw [decide_eq_false hq]; show _ = (0 : Int); omega
  rw [e2, e3]
  unfold bt
  rw [e4]
  cases A.testBit s
  · simp
  · have : (2 ^ s : Nat) ≠ 0 := Nat.ne_of_gt (Nat.two_pow_pos s)
    generalize 2 ^ s = M at this
    simp
    omega
set_option maxHeartbeats 4000000 in
theorem write_any_user (h h2 : Hrt) (T0 : Hid (∀ w, Calls Tryz.prog 30 #[.agg (hc h)] w fun e w' => e = .returned (.agg (hc h2)) ∧ Below w.heap.size w w')) (v : Int) (hv : 0 ≤ v ∧ v < 18446744073709551616) (hu : h2.user = true) (c : Int) (w : World) : Calls Tryz.prog 18 #[.agg (hc h), .int .i64 c, .int .u64 v] w fun e w' => e = .returned (.tuple #[.agg (hc h2), .bool false]) ∧ Below w.heap.size w w' := by
  obtain ⟨hv0, hv1⟩ := hv
  go_enter Tryz.func18, Tryz.ntmps18
  have ST := Lib.hid (Kn.nil (S := Step.Nil) (W := w))
  go_wp2_with (first
    | ((with_reducible refine Step.gate_box (t := 25) rfl ?_); refine Step.fresh (cs := hc h) (T := 25) rfl ?hr ?_; (case hr => first | (go_simp; done) | (go_simp; rfl)); intro g3 w1 b hg hb; replace ST := Lib.hid (ST.out.made b hg hb); clear b hb; clear hg)
    | ((with_reducible refine Step.gate_alloc (t := 25) rfl ?_); refine Step.freshAlloc rfl rfl (alloc_agg zero_hart) ?_; intro g6 w2 b hg hb; replace ST := Lib.hid (ST.out.made b hg hb); clear b hb; clear hg)
    | (go_at_call 30; (with_reducible refine (T0.out _).mono ?_); rintro e w' ⟨rfl, hb⟩; replace ST := Lib.hid (ST.out.call hb); clear hb)
    | ((with_reducible refine Step.gate_store (t := 25) rfl ?_); refine Step.storeAll ST.out.at0 rfl rfl rfl rfl rfl (size_hart _) rfl (hc_all _) ?_; intro w3 nb m; replace ST := Lib.hid (ST.out.set0 nb m); clear nb m)
    | ((with_reducible refine Step.gate_load (t := 25) rfl ?_); refine Step.loadAll ST.out.at0 rfl rfl rfl Tryz.underlying25 rfl (size_hart _) ?_)
    | ((with_reducible refine Step.gate_store (t := 25) rfl ?_); refine Step.storeAll ST.out.at1 rfl rfl rfl rfl rfl (size_hart _) rfl (hc_all _) ?_; intro w3 nb m; replace ST := Lib.hid (ST.out.set1 nb m); clear nb m)
    | ((with_reducible refine Step.gate_load (t := 25) rfl ?_); refine Step.loadAll ST.out.at1 rfl rfl rfl Tryz.underlying25 rfl (size_hart _) ?_)
    | ((with_reducible refine Step.gate_store (t := 22) rfl ?_); refine Step.store ST.out.at1 rfl rfl rfl rfl rfl pl_u64 rfl rfl ?_; intro w3 nb m; simp [go_sem, set_x0, set_pc, set_user, set_on, set_spie, set_spp, set_sum, set_mxr, set_rsv, set_stvec, set_sscr, set_sepc, set_scause, set_stval, set_sie, set_sip, set_satp, set_resv] at nb; replace ST := Lib.hid (ST.out.set1 nb m); clear nb m)
    | ((with_reducible refine Step.gate_load (t := 4) rfl ?_); refine Step.load ST.out.at1 rfl rfl rfl pl_bool (hv_ok _ (by decide)) ?_; simp only [hv_x0, hv_pc, hv_user, hv_on, hv_spie, hv_spp, hv_sum, hv_mxr, hv_rsv, hv_stvec, hv_sscr, hv_sepc, hv_scause, hv_stval, hv_sie, hv_sip, hv_satp, hv_resv, hu])
    | ((with_reducible refine Step.gate_load (t := 22) rfl ?_); refine Step.load ST.out.at1 rfl rfl rfl pl_u64 (hv_ok _ (by decide)) ?_; simp only [hv_x0, hv_pc, hv_user, hv_on, hv_spie, hv_spp, hv_sum, hv_mxr, hv_rsv, hv_stvec, hv_sscr, hv_sepc, hv_scause, hv_stval, hv_sie, hv_sip, hv_satp, hv_resv, hu]))
  all_goals exact bodyPost_ret (results_row_tmp rfl _ _ _ _ _ _ rfl ST.out.at0 Tryz.underlying25 rfl (size_hart _)) rfl ⟨rfl, ST.out.below⟩
set_option maxHeartbeats 4000000 in
theorem write_any_256 (h h2 : Hrt) (T0 : Hid (∀ w, Calls Tryz.prog 30 #[.agg (hc h)] w fun e w' => e = .returned (.agg (hc h2)) ∧ Below w.heap.size w w')) (v : Int) (hv : 0 ≤ v ∧ v < 18446744073709551616) (hu : h2.user = false) (E2 : (bits .and .u64 v 2 != 0) = bt v 2) (E32 : (bits .and .u64 v 32 != 0) = bt v 32) (E256 : (bits .and .u64 v 256 != 0) = bt v 256) (E262144 : (bits .and .u64 v 262144 != 0) = bt v 262144) (E524288 : (bits .and .u64 v 524288 != 0) = bt v 524288) (T1 : Hid (∀ w, Calls Tryz.prog 30 #[.agg (hc { h2 with on := bt v 2, spie := bt v 32, spp := bt v 256, sum := bt v 262144, mxr := bt v 524288, user := false })] w fun e w' => e = .returned (.agg (hc (ord { h2 with on := bt v 2, spie := bt v 32, spp := bt v 256, sum := bt v 262144, mxr := bt v 524288, user := false }))) ∧ Below w.heap.size w w')) (w : World) : Calls Tryz.prog 18 #[.agg (hc h), .int .i64 256, .int .u64 v] w fun e w' => e = .returned (.tuple #[.agg (hc (ord { h2 with on := bt v 2, spie := bt v 32, spp := bt v 256, sum := bt v 262144, mxr := bt v 524288, user := false })), .bool true]) ∧ Below w.heap.size w w' := by
  obtain ⟨hv0, hv1⟩ := hv
  go_enter Tryz.func18, Tryz.ntmps18
  have ST := Lib.hid (Kn.nil (S := Step.Nil) (W := w))
  go_wp2_with (first
    | ((with_reducible refine Step.gate_box (t := 25) rfl ?_); refine Step.fresh (cs := hc h) (T := 25) rfl ?hr ?_; (case hr => first | (go_simp; done) | (go_simp; rfl)); intro g3 w1 b hg hb; replace ST := Lib.hid (ST.out.made b hg hb); clear b hb; clear hg)
    | ((with_reducible refine Step.gate_alloc (t := 25) rfl ?_); refine Step.freshAlloc rfl rfl (alloc_agg zero_hart) ?_; intro g6 w2 b hg hb; replace ST := Lib.hid (ST.out.made b hg hb); clear b hb; clear hg)
    | (go_at_call 30; (with_reducible refine (T0.out _).mono ?_); rintro e w' ⟨rfl, hb⟩; replace ST := Lib.hid (ST.out.call hb); clear hb)
    | (go_at_call 30; (with_reducible refine (T1.out _).mono ?_); rintro e w' ⟨rfl, hb⟩; replace ST := Lib.hid (ST.out.call hb); clear hb)
    | ((with_reducible refine Step.gate_store (t := 25) rfl ?_); refine Step.storeAll ST.out.at0 rfl rfl rfl rfl rfl (size_hart _) rfl (hc_all _) ?_; intro w3 nb m; replace ST := Lib.hid (ST.out.set0 nb m); clear nb m)
    | ((with_reducible refine Step.gate_load (t := 25) rfl ?_); refine Step.loadAll ST.out.at0 rfl rfl rfl Tryz.underlying25 rfl (size_hart _) ?_)
    | ((with_reducible refine Step.gate_store (t := 25) rfl ?_); refine Step.storeAll ST.out.at1 rfl rfl rfl rfl rfl (size_hart _) rfl (hc_all _) ?_; intro w3 nb m; replace ST := Lib.hid (ST.out.set1 nb m); clear nb m)
    | ((with_reducible refine Step.gate_load (t := 25) rfl ?_); refine Step.loadAll ST.out.at1 rfl rfl rfl Tryz.underlying25 rfl (size_hart _) ?_)
    | ((with_reducible refine Step.gate_store (t := 4) rfl ?_); refine Step.store ST.out.at1 rfl rfl rfl rfl rfl pl_bool rfl rfl ?_; intro w3 nb m; simp [go_sem, set_x0, set_pc, set_user, set_on, set_spie, set_spp, set_sum, set_mxr, set_rsv, set_stvec, set_sscr, set_sepc, set_scause, set_stval, set_sie, set_sip, set_satp, set_resv, E2, E32, E256, E262144, E524288] at nb; replace ST := Lib.hid (ST.out.set1 nb m); clear nb m)
    | ((with_reducible refine Step.gate_store (t := 22) rfl ?_); refine Step.store ST.out.at1 rfl rfl rfl rfl rfl pl_u64 rfl rfl ?_; intro w3 nb m; simp [go_sem, set_x0, set_pc, set_user, set_on, set_spie, set_spp, set_sum, set_mxr, set_rsv, set_stvec, set_sscr, set_sepc, set_scause, set_stval, set_sie, set_sip, set_satp, set_resv, E2, E32, E256, E262144, E524288] at nb; replace ST := Lib.hid (ST.out.set1 nb m); clear nb m)
    | ((with_reducible refine Step.gate_load (t := 4) rfl ?_); refine Step.load ST.out.at1 rfl rfl rfl pl_bool (hv_ok _ (by decide)) ?_; simp only [hv_x0, hv_pc, hv_user, hv_on, hv_spie, hv_spp, hv_sum, hv_mxr, hv_rsv, hv_stvec, hv_sscr, hv_sepc, hv_scause, hv_stval, hv_sie, hv_sip, hv_satp, hv_resv, hu])
    | ((with_reducible refine Step.gate_load (t := 22) rfl ?_); refine Step.load ST.out.at1 rfl rfl rfl pl_u64 (hv_ok _ (by decide)) ?_; simp only [hv_x0, hv_pc, hv_user, hv_on, hv_spie, hv_spp, hv_sum, hv_mxr, hv_rsv, hv_stvec, hv_sscr, hv_sepc, hv_scause, hv_stval, hv_sie, hv_sip, hv_satp, hv_resv, hu]))
  all_goals exact bodyPost_ret (results_row_tmp rfl _ _ _ _ _ _ rfl ST.out.at0 Tryz.underlying25 rfl (size_hart _)) rfl ⟨rfl, ST.out.below⟩
set_option maxHeartbeats 4000000 in
theorem write_any_260 (h h2 : Hrt) (T0 : Hid (∀ w, Calls Tryz.prog 30 #[.agg (hc h)] w fun e w' => e = .returned (.agg (hc h2)) ∧ Below w.heap.size w w')) (v : Int) (hv : 0 ≤ v ∧ v < 18446744073709551616) (hu : h2.user = false) (T1 : Hid (∀ w, Calls Tryz.prog 30 #[.agg (hc { h2 with sie := v, user := false })] w fun e w' => e = .returned (.agg (hc (ord { h2 with sie := v, user := false }))) ∧ Below w.heap.size w w')) (w : World) : Calls Tryz.prog 18 #[.agg (hc h), .int .i64 260, .int .u64 v] w fun e w' => e = .returned (.tuple #[.agg (hc (ord { h2 with sie := v, user := false })), .bool true]) ∧ Below w.heap.size w w' := by
  obtain ⟨hv0, hv1⟩ := hv
  go_enter Tryz.func18, Tryz.ntmps18
  have ST := Lib.hid (Kn.nil (S := Step.Nil) (W := w))
  go_wp2_with (first
    | ((with_reducible refine Step.gate_box (t := 25) rfl ?_); refine Step.fresh (cs := hc h) (T := 25) rfl ?hr ?_; (case hr => first | (go_simp; done) | (go_simp; rfl)); intro g3 w1 b hg hb; replace ST := Lib.hid (ST.out.made b hg hb); clear b hb; clear hg)
    | ((with_reducible refine Step.gate_alloc (t := 25) rfl ?_); refine Step.freshAlloc rfl rfl (alloc_agg zero_hart) ?_; intro g6 w2 b hg hb; replace ST := Lib.hid (ST.out.made b hg hb); clear b hb; clear hg)
    | (go_at_call 30; (with_reducible refine (T0.out _).mono ?_); rintro e w' ⟨rfl, hb⟩; replace ST := Lib.hid (ST.out.call hb); clear hb)
    | (go_at_call 30; (with_reducible refine (T1.out _).mono ?_); rintro e w' ⟨rfl, hb⟩; replace ST := Lib.hid (ST.out.call hb); clear hb)
    | ((with_reducible refine Step.gate_store (t := 25) rfl ?_); refine Step.storeAll ST.out.at0 rfl rfl rfl rfl rfl (size_hart _) rfl (hc_all _) ?_; intro w3 nb m; replace ST := Lib.hid (ST.out.set0 nb m); clear nb m)
    | ((with_reducible refine Step.gate_load (t := 25) rfl ?_); refine Step.loadAll ST.out.at0 rfl rfl rfl Tryz.underlying25 rfl (size_hart _) ?_)
    | ((with_reducible refine Step.gate_store (t := 25) rfl ?_); refine Step.storeAll ST.out.at1 rfl rfl rfl rfl rfl (size_hart _) rfl (hc_all _) ?_; intro w3 nb m; replace ST := Lib.hid (ST.out.set1 nb m); clear nb m)
    | ((with_reducible refine Step.gate_load (t := 25) rfl ?_); refine Step.loadAll ST.out.at1 rfl rfl rfl Tryz.underlying25 rfl (size_hart _) ?_)
    | ((with_reducible refine Step.gate_store (t := 22) rfl ?_); refine Step.store ST.out.at1 rfl rfl rfl rfl rfl pl_u64 rfl rfl ?_; intro w3 nb m; simp [go_sem, set_x0, set_pc, set_user, set_on, set_spie, set_spp, set_sum, set_mxr, set_rsv, set_stvec, set_sscr, set_sepc, set_scause, set_stval, set_sie, set_sip, set_satp, set_resv] at nb; replace ST := Lib.hid (ST.out.set1 nb m); clear nb m)
    | ((with_reducible refine Step.gate_load (t := 4) rfl ?_); refine Step.load ST.out.at1 rfl rfl rfl pl_bool (hv_ok _ (by decide)) ?_; simp only [hv_x0, hv_pc, hv_user, hv_on, hv_spie, hv_spp, hv_sum, hv_mxr, hv_rsv, hv_stvec, hv_sscr, hv_sepc, hv_scause, hv_stval, hv_sie, hv_sip, hv_satp, hv_resv, hu])
    | ((with_reducible refine Step.gate_load (t := 22) rfl ?_); refine Step.load ST.out.at1 rfl rfl rfl pl_u64 (hv_ok _ (by decide)) ?_; simp only [hv_x0, hv_pc, hv_user, hv_on, hv_spie, hv_spp, hv_sum, hv_mxr, hv_rsv, hv_stvec, hv_sscr, hv_sepc, hv_scause, hv_stval, hv_sie, hv_sip, hv_satp, hv_resv, hu]))
  all_goals exact bodyPost_ret (results_row_tmp rfl _ _ _ _ _ _ rfl ST.out.at0 Tryz.underlying25 rfl (size_hart _)) rfl ⟨rfl, ST.out.below⟩
set_option maxHeartbeats 4000000 in
theorem write_any_261 (h h2 : Hrt) (T0 : Hid (∀ w, Calls Tryz.prog 30 #[.agg (hc h)] w fun e w' => e = .returned (.agg (hc h2)) ∧ Below w.heap.size w w')) (v : Int) (hv : 0 ≤ v ∧ v < 18446744073709551616) (hu : h2.user = false) (T1 : Hid (∀ w, Calls Tryz.prog 30 #[.agg (hc { h2 with stvec := v, user := false })] w fun e w' => e = .returned (.agg (hc (ord { h2 with stvec := v, user := false }))) ∧ Below w.heap.size w w')) (w : World) : Calls Tryz.prog 18 #[.agg (hc h), .int .i64 261, .int .u64 v] w fun e w' => e = .returned (.tuple #[.agg (hc (ord { h2 with stvec := v, user := false })), .bool true]) ∧ Below w.heap.size w w' := by
  obtain ⟨hv0, hv1⟩ := hv
  go_enter Tryz.func18, Tryz.ntmps18
  have ST := Lib.hid (Kn.nil (S := Step.Nil) (W := w))
  go_wp2_with (first
    | ((with_reducible refine Step.gate_box (t := 25) rfl ?_); refine Step.fresh (cs := hc h) (T := 25) rfl ?hr ?_; (case hr => first | (go_simp; done) | (go_simp; rfl)); intro g3 w1 b hg hb; replace ST := Lib.hid (ST.out.made b hg hb); clear b hb; clear hg)
    | ((with_reducible refine Step.gate_alloc (t := 25) rfl ?_); refine Step.freshAlloc rfl rfl (alloc_agg zero_hart) ?_; intro g6 w2 b hg hb; replace ST := Lib.hid (ST.out.made b hg hb); clear b hb; clear hg)
    | (go_at_call 30; (with_reducible refine (T0.out _).mono ?_); rintro e w' ⟨rfl, hb⟩; replace ST := Lib.hid (ST.out.call hb); clear hb)
    | (go_at_call 30; (with_reducible refine (T1.out _).mono ?_); rintro e w' ⟨rfl, hb⟩; replace ST := Lib.hid (ST.out.call hb); clear hb)
    | ((with_reducible refine Step.gate_store (t := 25) rfl ?_); refine Step.storeAll ST.out.at0 rfl rfl rfl rfl rfl (size_hart _) rfl (hc_all _) ?_; intro w3 nb m; replace ST := Lib.hid (ST.out.set0 nb m); clear nb m)
    | ((with_reducible refine Step.gate_load (t := 25) rfl ?_); refine Step.loadAll ST.out.at0 rfl rfl rfl Tryz.underlying25 rfl (size_hart _) ?_)
    | ((with_reducible refine Step.gate_store (t := 25) rfl ?_); refine Step.storeAll ST.out.at1 rfl rfl rfl rfl rfl (size_hart _) rfl (hc_all _) ?_; intro w3 nb m; replace ST := Lib.hid (ST.out.set1 nb m); clear nb m)
    | ((with_reducible refine Step.gate_load (t := 25) rfl ?_); refine Step.loadAll ST.out.at1 rfl rfl rfl Tryz.underlying25 rfl (size_hart _) ?_)
    | ((with_reducible refine Step.gate_store (t := 22) rfl ?_); refine Step.store ST.out.at1 rfl rfl rfl rfl rfl pl_u64 rfl rfl ?_; intro w3 nb m; simp [go_sem, set_x0, set_pc, set_user, set_on, set_spie, set_spp, set_sum, set_mxr, set_rsv, set_stvec, set_sscr, set_sepc, set_scause, set_stval, set_sie, set_sip, set_satp, set_resv] at nb; replace ST := Lib.hid (ST.out.set1 nb m); clear nb m)
    | ((with_reducible refine Step.gate_load (t := 4) rfl ?_); refine Step.load ST.out.at1 rfl rfl rfl pl_bool (hv_ok _ (by decide)) ?_; simp only [hv_x0, hv_pc, hv_user, hv_on, hv_spie, hv_spp, hv_sum, hv_mxr, hv_rsv, hv_stvec, hv_sscr, hv_sepc, hv_scause, hv_stval, hv_sie, hv_sip, hv_satp, hv_resv, hu])
    | ((with_reducible refine Step.gate_load (t := 22) rfl ?_); refine Step.load ST.out.at1 rfl rfl rfl pl_u64 (hv_ok _ (by decide)) ?_; simp only [hv_x0, hv_pc, hv_user, hv_on, hv_spie, hv_spp, hv_sum, hv_mxr, hv_rsv, hv_stvec, hv_sscr, hv_sepc, hv_scause, hv_stval, hv_sie, hv_sip, hv_satp, hv_resv, hu]))
  all_goals exact bodyPost_ret (results_row_tmp rfl _ _ _ _ _ _ rfl ST.out.at0 Tryz.underlying25 rfl (size_hart _)) rfl ⟨rfl, ST.out.below⟩
set_option maxHeartbeats 4000000 in
theorem write_any_320 (h h2 : Hrt) (T0 : Hid (∀ w, Calls Tryz.prog 30 #[.agg (hc h)] w fun e w' => e = .returned (.agg (hc h2)) ∧ Below w.heap.size w w')) (v : Int) (hv : 0 ≤ v ∧ v < 18446744073709551616) (hu : h2.user = false) (T1 : Hid (∀ w, Calls Tryz.prog 30 #[.agg (hc { h2 with sscr := v, user := false })] w fun e w' => e = .returned (.agg (hc (ord { h2 with sscr := v, user := false }))) ∧ Below w.heap.size w w')) (w : World) : Calls Tryz.prog 18 #[.agg (hc h), .int .i64 320, .int .u64 v] w fun e w' => e = .returned (.tuple #[.agg (hc (ord { h2 with sscr := v, user := false })), .bool true]) ∧ Below w.heap.size w w' := by
  obtain ⟨hv0, hv1⟩ := hv
  go_enter Tryz.func18, Tryz.ntmps18
  have ST := Lib.hid (Kn.nil (S := Step.Nil) (W := w))
  go_wp2_with (first
    | ((with_reducible refine Step.gate_box (t := 25) rfl ?_); refine Step.fresh (cs := hc h) (T := 25) rfl ?hr ?_; (case hr => first | (go_simp; done) | (go_simp; rfl)); intro g3 w1 b hg hb; replace ST := Lib.hid (ST.out.made b hg hb); clear b hb; clear hg)
    | ((with_reducible refine Step.gate_alloc (t := 25) rfl ?_); refine Step.freshAlloc rfl rfl (alloc_agg zero_hart) ?_; intro g6 w2 b hg hb; replace ST := Lib.hid (ST.out.made b hg hb); clear b hb; clear hg)
    | (go_at_call 30; (with_reducible refine (T0.out _).mono ?_); rintro e w' ⟨rfl, hb⟩; replace ST := Lib.hid (ST.out.call hb); clear hb)
    | (go_at_call 30; (with_reducible refine (T1.out _).mono ?_); rintro e w' ⟨rfl, hb⟩; replace ST := Lib.hid (ST.out.call hb); clear hb)
    | ((with_reducible refine Step.gate_store (t := 25) rfl ?_); refine Step.storeAll ST.out.at0 rfl rfl rfl rfl rfl (size_hart _) rfl (hc_all _) ?_; intro w3 nb m; replace ST := Lib.hid (ST.out.set0 nb m); clear nb m)
    | ((with_reducible refine Step.gate_load (t := 25) rfl ?_); refine Step.loadAll ST.out.at0 rfl rfl rfl Tryz.underlying25 rfl (size_hart _) ?_)
    | ((with_reducible refine Step.gate_store (t := 25) rfl ?_); refine Step.storeAll ST.out.at1 rfl rfl rfl rfl rfl (size_hart _) rfl (hc_all _) ?_; intro w3 nb m; replace ST := Lib.hid (ST.out.set1 nb m); clear nb m)
    | ((with_reducible refine Step.gate_load (t := 25) rfl ?_); refine Step.loadAll ST.out.at1 rfl rfl rfl Tryz.underlying25 rfl (size_hart _) ?_)
    | ((with_reducible refine Step.gate_store (t := 22) rfl ?_); refine Step.store ST.out.at1 rfl rfl rfl rfl rfl pl_u64 rfl rfl ?_; intro w3 nb m; simp [go_sem, set_x0, set_pc, set_user, set_on, set_spie, set_spp, set_sum, set_mxr, set_rsv, set_stvec, set_sscr, set_sepc, set_scause, set_stval, set_sie, set_sip, set_satp, set_resv] at nb; replace ST := Lib.hid (ST.out.set1 nb m); clear nb m)
    | ((with_reducible refine Step.gate_load (t := 4) rfl ?_); refine Step.load ST.out.at1 rfl rfl rfl pl_bool (hv_ok _ (by decide)) ?_; simp only [hv_x0, hv_pc, hv_user, hv_on, hv_spie, hv_spp, hv_sum, hv_mxr, hv_rsv, hv_stvec, hv_sscr, hv_sepc, hv_scause, hv_stval, hv_sie, hv_sip, hv_satp, hv_resv, hu])
    | ((with_reducible refine Step.gate_load (t := 22) rfl ?_); refine Step.load ST.out.at1 rfl rfl rfl pl_u64 (hv_ok _ (by decide)) ?_; simp only [hv_x0, hv_pc, hv_user, hv_on, hv_spie, hv_spp, hv_sum, hv_mxr, hv_rsv, hv_stvec, hv_sscr, hv_sepc, hv_scause, hv_stval, hv_sie, hv_sip, hv_satp, hv_resv, hu]))
  all_goals exact bodyPost_ret (results_row_tmp rfl _ _ _ _ _ _ rfl ST.out.at0 Tryz.underlying25 rfl (size_hart _)) rfl ⟨rfl, ST.out.below⟩
set_option maxHeartbeats 4000000 in
theorem write_any_321 (h h2 : Hrt) (T0 : Hid (∀ w, Calls Tryz.prog 30 #[.agg (hc h)] w fun e w' => e = .returned (.agg (hc h2)) ∧ Below w.heap.size w w')) (v : Int) (hv : 0 ≤ v ∧ v < 18446744073709551616) (hu : h2.user = false) (T1 : Hid (∀ w, Calls Tryz.prog 30 #[.agg (hc { h2 with sepc := v, user := false })] w fun e w' => e = .returned (.agg (hc (ord { h2 with sepc := v, user := false }))) ∧ Below w.heap.size w w')) (w : World) : Calls Tryz.prog 18 #[.agg (hc h), .int .i64 321, .int .u64 v] w fun e w' => e = .returned (.tuple #[.agg (hc (ord { h2 with sepc := v, user := false })), .bool true]) ∧ Below w.heap.size w w' := by
  obtain ⟨hv0, hv1⟩ := hv
  go_enter Tryz.func18, Tryz.ntmps18
  have ST := Lib.hid (Kn.nil (S := Step.Nil) (W := w))
  go_wp2_with (first
    | ((with_reducible refine Step.gate_box (t := 25) rfl ?_); refine Step.fresh (cs := hc h) (T := 25) rfl ?hr ?_; (case hr => first | (go_simp; done) | (go_simp; rfl)); intro g3 w1 b hg hb; replace ST := Lib.hid (ST.out.made b hg hb); clear b hb; clear hg)
    | ((with_reducible refine Step.gate_alloc (t := 25) rfl ?_); refine Step.freshAlloc rfl rfl (alloc_agg zero_hart) ?_; intro g6 w2 b hg hb; replace ST := Lib.hid (ST.out.made b hg hb); clear b hb; clear hg)
    | (go_at_call 30; (with_reducible refine (T0.out _).mono ?_); rintro e w' ⟨rfl, hb⟩; replace ST := Lib.hid (ST.out.call hb); clear hb)
    | (go_at_call 30; (with_reducible refine (T1.out _).mono ?_); rintro e w' ⟨rfl, hb⟩; replace ST := Lib.hid (ST.out.call hb); clear hb)
    | ((with_reducible refine Step.gate_store (t := 25) rfl ?_); refine Step.storeAll ST.out.at0 rfl rfl rfl rfl rfl (size_hart _) rfl (hc_all _) ?_; intro w3 nb m; replace ST := Lib.hid (ST.out.set0 nb m); clear nb m)
    | ((with_reducible refine Step.gate_load (t := 25) rfl ?_); refine Step.loadAll ST.out.at0 rfl rfl rfl Tryz.underlying25 rfl (size_hart _) ?_)
    | ((with_reducible refine Step.gate_store (t := 25) rfl ?_); refine Step.storeAll ST.out.at1 rfl rfl rfl rfl rfl (size_hart _) rfl (hc_all _) ?_; intro w3 nb m; replace ST := Lib.hid (ST.out.set1 nb m); clear nb m)
    | ((with_reducible refine Step.gate_load (t := 25) rfl ?_); refine Step.loadAll ST.out.at1 rfl rfl rfl Tryz.underlying25 rfl (size_hart _) ?_)
    | ((with_reducible refine Step.gate_store (t := 22) rfl ?_); refine Step.store ST.out.at1 rfl rfl rfl rfl rfl pl_u64 rfl rfl ?_; intro w3 nb m; simp [go_sem, set_x0, set_pc, set_user, set_on, set_spie, set_spp, set_sum, set_mxr, set_rsv, set_stvec, set_sscr, set_sepc, set_scause, set_stval, set_sie, set_sip, set_satp, set_resv] at nb; replace ST := Lib.hid (ST.out.set1 nb m); clear nb m)
    | ((with_reducible refine Step.gate_load (t := 4) rfl ?_); refine Step.load ST.out.at1 rfl rfl rfl pl_bool (hv_ok _ (by decide)) ?_; simp only [hv_x0, hv_pc, hv_user, hv_on, hv_spie, hv_spp, hv_sum, hv_mxr, hv_rsv, hv_stvec, hv_sscr, hv_sepc, hv_scause, hv_stval, hv_sie, hv_sip, hv_satp, hv_resv, hu])
    | ((with_reducible refine Step.gate_load (t := 22) rfl ?_); refine Step.load ST.out.at1 rfl rfl rfl pl_u64 (hv_ok _ (by decide)) ?_; simp only [hv_x0, hv_pc, hv_user, hv_on, hv_spie, hv_spp, hv_sum, hv_mxr, hv_rsv, hv_stvec, hv_sscr, hv_sepc, hv_scause, hv_stval, hv_sie, hv_sip, hv_satp, hv_resv, hu]))
  all_goals exact bodyPost_ret (results_row_tmp rfl _ _ _ _ _ _ rfl ST.out.at0 Tryz.underlying25 rfl (size_hart _)) rfl ⟨rfl, ST.out.below⟩
set_option maxHeartbeats 4000000 in
theorem write_any_322 (h h2 : Hrt) (T0 : Hid (∀ w, Calls Tryz.prog 30 #[.agg (hc h)] w fun e w' => e = .returned (.agg (hc h2)) ∧ Below w.heap.size w w')) (v : Int) (hv : 0 ≤ v ∧ v < 18446744073709551616) (hu : h2.user = false) (T1 : Hid (∀ w, Calls Tryz.prog 30 #[.agg (hc { h2 with scause := v, user := false })] w fun e w' => e = .returned (.agg (hc (ord { h2 with scause := v, user := false }))) ∧ Below w.heap.size w w')) (w : World) : Calls Tryz.prog 18 #[.agg (hc h), .int .i64 322, .int .u64 v] w fun e w' => e = .returned (.tuple #[.agg (hc (ord { h2 with scause := v, user := false })), .bool true]) ∧ Below w.heap.size w w' := by
  obtain ⟨hv0, hv1⟩ := hv
  go_enter Tryz.func18, Tryz.ntmps18
  have ST := Lib.hid (Kn.nil (S := Step.Nil) (W := w))
  go_wp2_with (first
    | ((with_reducible refine Step.gate_box (t := 25) rfl ?_); refine Step.fresh (cs := hc h) (T := 25) rfl ?hr ?_; (case hr => first | (go_simp; done) | (go_simp; rfl)); intro g3 w1 b hg hb; replace ST := Lib.hid (ST.out.made b hg hb); clear b hb; clear hg)
    | ((with_reducible refine Step.gate_alloc (t := 25) rfl ?_); refine Step.freshAlloc rfl rfl (alloc_agg zero_hart) ?_; intro g6 w2 b hg hb; replace ST := Lib.hid (ST.out.made b hg hb); clear b hb; clear hg)
    | (go_at_call 30; (with_reducible refine (T0.out _).mono ?_); rintro e w' ⟨rfl, hb⟩; replace ST := Lib.hid (ST.out.call hb); clear hb)
    | (go_at_call 30; (with_reducible refine (T1.out _).mono ?_); rintro e w' ⟨rfl, hb⟩; replace ST := Lib.hid (ST.out.call hb); clear hb)
    | ((with_reducible refine Step.gate_store (t := 25) rfl ?_); refine Step.storeAll ST.out.at0 rfl rfl rfl rfl rfl (size_hart _) rfl (hc_all _) ?_; intro w3 nb m; replace ST := Lib.hid (ST.out.set0 nb m); clear nb m)
    | ((with_reducible refine Step.gate_load (t := 25) rfl ?_); refine Step.loadAll ST.out.at0 rfl rfl rfl Tryz.underlying25 rfl (size_hart _) ?_)
    | ((with_reducible refine Step.gate_store (t := 25) rfl ?_); refine Step.storeAll ST.out.at1 rfl rfl rfl rfl rfl (size_hart _) rfl (hc_all _) ?_; intro w3 nb m; replace ST := Lib.hid (ST.out.set1 nb m); clear nb m)
    | ((with_reducible refine Step.gate_load (t := 25) rfl ?_); refine Step.loadAll ST.out.at1 rfl rfl rfl Tryz.underlying25 rfl (size_hart _) ?_)
    | ((with_reducible refine Step.gate_store (t := 22) rfl ?_); refine Step.store ST.out.at1 rfl rfl rfl rfl rfl pl_u64 rfl rfl ?_; intro w3 nb m; simp [go_sem, set_x0, set_pc, set_user, set_on, set_spie, set_spp, set_sum, set_mxr, set_rsv, set_stvec, set_sscr, set_sepc, set_scause, set_stval, set_sie, set_sip, set_satp, set_resv] at nb; replace ST := Lib.hid (ST.out.set1 nb m); clear nb m)
    | ((with_reducible refine Step.gate_load (t := 4) rfl ?_); refine Step.load ST.out.at1 rfl rfl rfl pl_bool (hv_ok _ (by decide)) ?_; simp only [hv_x0, hv_pc, hv_user, hv_on, hv_spie, hv_spp, hv_sum, hv_mxr, hv_rsv, hv_stvec, hv_sscr, hv_sepc, hv_scause, hv_stval, hv_sie, hv_sip, hv_satp, hv_resv, hu])
    | ((with_reducible refine Step.gate_load (t := 22) rfl ?_); refine Step.load ST.out.at1 rfl rfl rfl pl_u64 (hv_ok _ (by decide)) ?_; simp only [hv_x0, hv_pc, hv_user, hv_on, hv_spie, hv_spp, hv_sum, hv_mxr, hv_rsv, hv_stvec, hv_sscr, hv_sepc, hv_scause, hv_stval, hv_sie, hv_sip, hv_satp, hv_resv, hu]))
  all_goals exact bodyPost_ret (results_row_tmp rfl _ _ _ _ _ _ rfl ST.out.at0 Tryz.underlying25 rfl (size_hart _)) rfl ⟨rfl, ST.out.below⟩
set_option maxHeartbeats 4000000 in
theorem write_any_323 (h h2 : Hrt) (T0 : Hid (∀ w, Calls Tryz.prog 30 #[.agg (hc h)] w fun e w' => e = .returned (.agg (hc h2)) ∧ Below w.heap.size w w')) (v : Int) (hv : 0 ≤ v ∧ v < 18446744073709551616) (hu : h2.user = false) (T1 : Hid (∀ w, Calls Tryz.prog 30 #[.agg (hc { h2 with stval := v, user := false })] w fun e w' => e = .returned (.agg (hc (ord { h2 with stval := v, user := false }))) ∧ Below w.heap.size w w')) (w : World) : Calls Tryz.prog 18 #[.agg (hc h), .int .i64 323, .int .u64 v] w fun e w' => e = .returned (.tuple #[.agg (hc (ord { h2 with stval := v, user := false })), .bool true]) ∧ Below w.heap.size w w' := by
  obtain ⟨hv0, hv1⟩ := hv
  go_enter Tryz.func18, Tryz.ntmps18
  have ST := Lib.hid (Kn.nil (S := Step.Nil) (W := w))
  go_wp2_with (first
    | ((with_reducible refine Step.gate_box (t := 25) rfl ?_); refine Step.fresh (cs := hc h) (T := 25) rfl ?hr ?_; (case hr => first | (go_simp; done) | (go_simp; rfl)); intro g3 w1 b hg hb; replace ST := Lib.hid (ST.out.made b hg hb); clear b hb; clear hg)
    | ((with_reducible refine Step.gate_alloc (t := 25) rfl ?_); refine Step.freshAlloc rfl rfl (alloc_agg zero_hart) ?_; intro g6 w2 b hg hb; replace ST := Lib.hid (ST.out.made b hg hb); clear b hb; clear hg)
    | (go_at_call 30; (with_reducible refine (T0.out _).mono ?_); rintro e w' ⟨rfl, hb⟩; replace ST := Lib.hid (ST.out.call hb); clear hb)
    | (go_at_call 30; (with_reducible refine (T1.out _).mono ?_); rintro e w' ⟨rfl, hb⟩; replace ST := Lib.hid (ST.out.call hb); clear hb)
    | ((with_reducible refine Step.gate_store (t := 25) rfl ?_); refine Step.storeAll ST.out.at0 rfl rfl rfl rfl rfl (size_hart _) rfl (hc_all _) ?_; intro w3 nb m; replace ST := Lib.hid (ST.out.set0 nb m); clear nb m)
    | ((with_reducible refine Step.gate_load (t := 25) rfl ?_); refine Step.loadAll ST.out.at0 rfl rfl rfl Tryz.underlying25 rfl (size_hart _) ?_)
    | ((with_reducible refine Step.gate_store (t := 25) rfl ?_); refine Step.storeAll ST.out.at1 rfl rfl rfl rfl rfl (size_hart _) rfl (hc_all _) ?_; intro w3 nb m; replace ST := Lib.hid (ST.out.set1 nb m); clear nb m)
    | ((with_reducible refine Step.gate_load (t := 25) rfl ?_); refine Step.loadAll ST.out.at1 rfl rfl rfl Tryz.underlying25 rfl (size_hart _) ?_)
    | ((with_reducible refine Step.gate_store (t := 22) rfl ?_); refine Step.store ST.out.at1 rfl rfl rfl rfl rfl pl_u64 rfl rfl ?_; intro w3 nb m; simp [go_sem, set_x0, set_pc, set_user, set_on, set_spie, set_spp, set_sum, set_mxr, set_rsv, set_stvec, set_sscr, set_sepc, set_scause, set_stval, set_sie, set_sip, set_satp, set_resv] at nb; replace ST := Lib.hid (ST.out.set1 nb m); clear nb m)
    | ((with_reducible refine Step.gate_load (t := 4) rfl ?_); refine Step.load ST.out.at1 rfl rfl rfl pl_bool (hv_ok _ (by decide)) ?_; simp only [hv_x0, hv_pc, hv_user, hv_on, hv_spie, hv_spp, hv_sum, hv_mxr, hv_rsv, hv_stvec, hv_sscr, hv_sepc, hv_scause, hv_stval, hv_sie, hv_sip, hv_satp, hv_resv, hu])
    | ((with_reducible refine Step.gate_load (t := 22) rfl ?_); refine Step.load ST.out.at1 rfl rfl rfl pl_u64 (hv_ok _ (by decide)) ?_; simp only [hv_x0, hv_pc, hv_user, hv_on, hv_spie, hv_spp, hv_sum, hv_mxr, hv_rsv, hv_stvec, hv_sscr, hv_sepc, hv_scause, hv_stval, hv_sie, hv_sip, hv_satp, hv_resv, hu]))
  all_goals exact bodyPost_ret (results_row_tmp rfl _ _ _ _ _ _ rfl ST.out.at0 Tryz.underlying25 rfl (size_hart _)) rfl ⟨rfl, ST.out.below⟩
set_option maxHeartbeats 4000000 in
theorem write_any_324 (h h2 : Hrt) (T0 : Hid (∀ w, Calls Tryz.prog 30 #[.agg (hc h)] w fun e w' => e = .returned (.agg (hc h2)) ∧ Below w.heap.size w w')) (v : Int) (hv : 0 ≤ v ∧ v < 18446744073709551616) (hu : h2.user = false) (T1 : Hid (∀ w, Calls Tryz.prog 30 #[.agg (hc { h2 with sip := bits .or .u64 (bits .andNot .u64 h2.sip 2) (bits .and .u64 v 2), user := false })] w fun e w' => e = .returned (.agg (hc (ord { h2 with sip := bits .or .u64 (bits .andNot .u64 h2.sip 2) (bits .and .u64 v 2), user := false }))) ∧ Below w.heap.size w w')) (w : World) : Calls Tryz.prog 18 #[.agg (hc h), .int .i64 324, .int .u64 v] w fun e w' => e = .returned (.tuple #[.agg (hc (ord { h2 with sip := bits .or .u64 (bits .andNot .u64 h2.sip 2) (bits .and .u64 v 2), user := false })), .bool true]) ∧ Below w.heap.size w w' := by
  obtain ⟨hv0, hv1⟩ := hv
  go_enter Tryz.func18, Tryz.ntmps18
  have ST := Lib.hid (Kn.nil (S := Step.Nil) (W := w))
  go_wp2_with (first
    | ((with_reducible refine Step.gate_box (t := 25) rfl ?_); refine Step.fresh (cs := hc h) (T := 25) rfl ?hr ?_; (case hr => first | (go_simp; done) | (go_simp; rfl)); intro g3 w1 b hg hb; replace ST := Lib.hid (ST.out.made b hg hb); clear b hb; clear hg)
    | ((with_reducible refine Step.gate_alloc (t := 25) rfl ?_); refine Step.freshAlloc rfl rfl (alloc_agg zero_hart) ?_; intro g6 w2 b hg hb; replace ST := Lib.hid (ST.out.made b hg hb); clear b hb; clear hg)
    | (go_at_call 30; (with_reducible refine (T0.out _).mono ?_); rintro e w' ⟨rfl, hb⟩; replace ST := Lib.hid (ST.out.call hb); clear hb)
    | (go_at_call 30; (with_reducible refine (T1.out _).mono ?_); rintro e w' ⟨rfl, hb⟩; replace ST := Lib.hid (ST.out.call hb); clear hb)
    | ((with_reducible refine Step.gate_store (t := 25) rfl ?_); refine Step.storeAll ST.out.at0 rfl rfl rfl rfl rfl (size_hart _) rfl (hc_all _) ?_; intro w3 nb m; replace ST := Lib.hid (ST.out.set0 nb m); clear nb m)
    | ((with_reducible refine Step.gate_load (t := 25) rfl ?_); refine Step.loadAll ST.out.at0 rfl rfl rfl Tryz.underlying25 rfl (size_hart _) ?_)
    | ((with_reducible refine Step.gate_store (t := 25) rfl ?_); refine Step.storeAll ST.out.at1 rfl rfl rfl rfl rfl (size_hart _) rfl (hc_all _) ?_; intro w3 nb m; replace ST := Lib.hid (ST.out.set1 nb m); clear nb m)
    | ((with_reducible refine Step.gate_load (t := 25) rfl ?_); refine Step.loadAll ST.out.at1 rfl rfl rfl Tryz.underlying25 rfl (size_hart _) ?_)
    | ((with_reducible refine Step.gate_store (t := 22) rfl ?_); refine Step.store ST.out.at1 rfl rfl rfl rfl rfl pl_u64 rfl rfl ?_; intro w3 nb m; simp [go_sem, set_x0, set_pc, set_user, set_on, set_spie, set_spp, set_sum, set_mxr, set_rsv, set_stvec, set_sscr, set_sepc, set_scause, set_stval, set_sie, set_sip, set_satp, set_resv] at nb; replace ST := Lib.hid (ST.out.set1 nb m); clear nb m)
    | ((with_reducible refine Step.gate_load (t := 4) rfl ?_); refine Step.load ST.out.at1 rfl rfl rfl pl_bool (hv_ok _ (by decide)) ?_; simp only [hv_x0, hv_pc, hv_user, hv_on, hv_spie, hv_spp, hv_sum, hv_mxr, hv_rsv, hv_stvec, hv_sscr, hv_sepc, hv_scause, hv_stval, hv_sie, hv_sip, hv_satp, hv_resv, hu])
    | ((with_reducible refine Step.gate_load (t := 22) rfl ?_); refine Step.load ST.out.at1 rfl rfl rfl pl_u64 (hv_ok _ (by decide)) ?_; simp only [hv_x0, hv_pc, hv_user, hv_on, hv_spie, hv_spp, hv_sum, hv_mxr, hv_rsv, hv_stvec, hv_sscr, hv_sepc, hv_scause, hv_stval, hv_sie, hv_sip, hv_satp, hv_resv, hu]))
  all_goals exact bodyPost_ret (results_row_tmp rfl _ _ _ _ _ _ rfl ST.out.at0 Tryz.underlying25 rfl (size_hart _)) rfl ⟨rfl, ST.out.below⟩
set_option maxHeartbeats 4000000 in
theorem write_any_384a (h h2 : Hrt) (T0 : Hid (∀ w, Calls Tryz.prog 30 #[.agg (hc h)] w fun e w' => e = .returned (.agg (hc h2)) ∧ Below w.heap.size w w')) (v : Int) (hv : 0 ≤ v ∧ v < 18446744073709551616) (hu : h2.user = false) (h0 : (v / 1152921504606846976 == 0) = true) (T1 : Hid (∀ w, Calls Tryz.prog 30 #[.agg (hc { h2 with satp := v, user := false })] w fun e w' => e = .returned (.agg (hc (ord { h2 with satp := v, user := false }))) ∧ Below w.heap.size w w')) (w : World) : Calls Tryz.prog 18 #[.agg (hc h), .int .i64 384, .int .u64 v] w fun e w' => e = .returned (.tuple #[.agg (hc (ord { h2 with satp := v, user := false })), .bool true]) ∧ Below w.heap.size w w' := by
  obtain ⟨hv0, hv1⟩ := hv
  go_enter Tryz.func18, Tryz.ntmps18
  have ST := Lib.hid (Kn.nil (S := Step.Nil) (W := w))
  go_wp2_with (first
    | ((with_reducible refine Step.gate_box (t := 25) rfl ?_); refine Step.fresh (cs := hc h) (T := 25) rfl ?hr ?_; (case hr => first | (go_simp; done) | (go_simp; rfl)); intro g3 w1 b hg hb; replace ST := Lib.hid (ST.out.made b hg hb); clear b hb; clear hg)
    | ((with_reducible refine Step.gate_alloc (t := 25) rfl ?_); refine Step.freshAlloc rfl rfl (alloc_agg zero_hart) ?_; intro g6 w2 b hg hb; replace ST := Lib.hid (ST.out.made b hg hb); clear b hb; clear hg)
    | (go_at_call 30; (with_reducible refine (T0.out _).mono ?_); rintro e w' ⟨rfl, hb⟩; replace ST := Lib.hid (ST.out.call hb); clear hb)
    | (go_at_call 30; (with_reducible refine (T1.out _).mono ?_); rintro e w' ⟨rfl, hb⟩; replace ST := Lib.hid (ST.out.call hb); clear hb)
    | ((with_reducible refine Step.gate_store (t := 25) rfl ?_); refine Step.storeAll ST.out.at0 rfl rfl rfl rfl rfl (size_hart _) rfl (hc_all _) ?_; intro w3 nb m; replace ST := Lib.hid (ST.out.set0 nb m); clear nb m)
    | ((with_reducible refine Step.gate_load (t := 25) rfl ?_); refine Step.loadAll ST.out.at0 rfl rfl rfl Tryz.underlying25 rfl (size_hart _) ?_)
    | ((with_reducible refine Step.gate_store (t := 25) rfl ?_); refine Step.storeAll ST.out.at1 rfl rfl rfl rfl rfl (size_hart _) rfl (hc_all _) ?_; intro w3 nb m; replace ST := Lib.hid (ST.out.set1 nb m); clear nb m)
    | ((with_reducible refine Step.gate_load (t := 25) rfl ?_); refine Step.loadAll ST.out.at1 rfl rfl rfl Tryz.underlying25 rfl (size_hart _) ?_)
    | ((with_reducible refine Step.gate_store (t := 22) rfl ?_); refine Step.store ST.out.at1 rfl rfl rfl rfl rfl pl_u64 rfl rfl ?_; intro w3 nb m; simp [go_sem, set_x0, set_pc, set_user, set_on, set_spie, set_spp, set_sum, set_mxr, set_rsv, set_stvec, set_sscr, set_sepc, set_scause, set_stval, set_sie, set_sip, set_satp, set_resv] at nb; replace ST := Lib.hid (ST.out.set1 nb m); clear nb m)
    | ((with_reducible refine Step.gate_load (t := 4) rfl ?_); refine Step.load ST.out.at1 rfl rfl rfl pl_bool (hv_ok _ (by decide)) ?_; simp only [hv_x0, hv_pc, hv_user, hv_on, hv_spie, hv_spp, hv_sum, hv_mxr, hv_rsv, hv_stvec, hv_sscr, hv_sepc, hv_scause, hv_stval, hv_sie, hv_sip, hv_satp, hv_resv, hu])
    | ((with_reducible refine Step.gate_load (t := 22) rfl ?_); refine Step.load ST.out.at1 rfl rfl rfl pl_u64 (hv_ok _ (by decide)) ?_; simp only [hv_x0, hv_pc, hv_user, hv_on, hv_spie, hv_spp, hv_sum, hv_mxr, hv_rsv, hv_stvec, hv_sscr, hv_sepc, hv_scause, hv_stval, hv_sie, hv_sip, hv_satp, hv_resv, hu]))
  all_goals exact bodyPost_ret (results_row_tmp rfl _ _ _ _ _ _ rfl ST.out.at0 Tryz.underlying25 rfl (size_hart _)) rfl ⟨rfl, ST.out.below⟩
set_option maxHeartbeats 4000000 in
theorem write_any_384b (h h2 : Hrt) (T0 : Hid (∀ w, Calls Tryz.prog 30 #[.agg (hc h)] w fun e w' => e = .returned (.agg (hc h2)) ∧ Below w.heap.size w w')) (v : Int) (hv : 0 ≤ v ∧ v < 18446744073709551616) (hu : h2.user = false) (h0 : (v / 1152921504606846976 == 0) = false) (h8 : (v / 1152921504606846976 == 8) = true) (T1 : Hid (∀ w, Calls Tryz.prog 30 #[.agg (hc { h2 with satp := v, user := false })] w fun e w' => e = .returned (.agg (hc (ord { h2 with satp := v, user := false }))) ∧ Below w.heap.size w w')) (w : World) : Calls Tryz.prog 18 #[.agg (hc h), .int .i64 384, .int .u64 v] w fun e w' => e = .returned (.tuple #[.agg (hc (ord { h2 with satp := v, user := false })), .bool true]) ∧ Below w.heap.size w w' := by
  obtain ⟨hv0, hv1⟩ := hv
  go_enter Tryz.func18, Tryz.ntmps18
  have ST := Lib.hid (Kn.nil (S := Step.Nil) (W := w))
  go_wp2_with (first
    | ((with_reducible refine Step.gate_box (t := 25) rfl ?_); refine Step.fresh (cs := hc h) (T := 25) rfl ?hr ?_; (case hr => first | (go_simp; done) | (go_simp; rfl)); intro g3 w1 b hg hb; replace ST := Lib.hid (ST.out.made b hg hb); clear b hb; clear hg)
    | ((with_reducible refine Step.gate_alloc (t := 25) rfl ?_); refine Step.freshAlloc rfl rfl (alloc_agg zero_hart) ?_; intro g6 w2 b hg hb; replace ST := Lib.hid (ST.out.made b hg hb); clear b hb; clear hg)
    | (go_at_call 30; (with_reducible refine (T0.out _).mono ?_); rintro e w' ⟨rfl, hb⟩; replace ST := Lib.hid (ST.out.call hb); clear hb)
    | (go_at_call 30; (with_reducible refine (T1.out _).mono ?_); rintro e w' ⟨rfl, hb⟩; replace ST := Lib.hid (ST.out.call hb); clear hb)
    | ((with_reducible refine Step.gate_store (t := 25) rfl ?_); refine Step.storeAll ST.out.at0 rfl rfl rfl rfl rfl (size_hart _) rfl (hc_all _) ?_; intro w3 nb m; replace ST := Lib.hid (ST.out.set0 nb m); clear nb m)
    | ((with_reducible refine Step.gate_load (t := 25) rfl ?_); refine Step.loadAll ST.out.at0 rfl rfl rfl Tryz.underlying25 rfl (size_hart _) ?_)
    | ((with_reducible refine Step.gate_store (t := 25) rfl ?_); refine Step.storeAll ST.out.at1 rfl rfl rfl rfl rfl (size_hart _) rfl (hc_all _) ?_; intro w3 nb m; replace ST := Lib.hid (ST.out.set1 nb m); clear nb m)
    | ((with_reducible refine Step.gate_load (t := 25) rfl ?_); refine Step.loadAll ST.out.at1 rfl rfl rfl Tryz.underlying25 rfl (size_hart _) ?_)
    | ((with_reducible refine Step.gate_store (t := 22) rfl ?_); refine Step.store ST.out.at1 rfl rfl rfl rfl rfl pl_u64 rfl rfl ?_; intro w3 nb m; simp [go_sem, set_x0, set_pc, set_user, set_on, set_spie, set_spp, set_sum, set_mxr, set_rsv, set_stvec, set_sscr, set_sepc, set_scause, set_stval, set_sie, set_sip, set_satp, set_resv] at nb; replace ST := Lib.hid (ST.out.set1 nb m); clear nb m)
    | ((with_reducible refine Step.gate_load (t := 4) rfl ?_); refine Step.load ST.out.at1 rfl rfl rfl pl_bool (hv_ok _ (by decide)) ?_; simp only [hv_x0, hv_pc, hv_user, hv_on, hv_spie, hv_spp, hv_sum, hv_mxr, hv_rsv, hv_stvec, hv_sscr, hv_sepc, hv_scause, hv_stval, hv_sie, hv_sip, hv_satp, hv_resv, hu])
    | ((with_reducible refine Step.gate_load (t := 22) rfl ?_); refine Step.load ST.out.at1 rfl rfl rfl pl_u64 (hv_ok _ (by decide)) ?_; simp only [hv_x0, hv_pc, hv_user, hv_on, hv_spie, hv_spp, hv_sum, hv_mxr, hv_rsv, hv_stvec, hv_sscr, hv_sepc, hv_scause, hv_stval, hv_sie, hv_sip, hv_satp, hv_resv, hu]))
  all_goals exact bodyPost_ret (results_row_tmp rfl _ _ _ _ _ _ rfl ST.out.at0 Tryz.underlying25 rfl (size_hart _)) rfl ⟨rfl, ST.out.below⟩
set_option maxHeartbeats 4000000 in
theorem write_any_384c (h h2 : Hrt) (T0 : Hid (∀ w, Calls Tryz.prog 30 #[.agg (hc h)] w fun e w' => e = .returned (.agg (hc h2)) ∧ Below w.heap.size w w')) (v : Int) (hv : 0 ≤ v ∧ v < 18446744073709551616) (hu : h2.user = false) (h0 : (v / 1152921504606846976 == 0) = false) (h8 : (v / 1152921504606846976 == 8) = false) (T1 : Hid (∀ w, Calls Tryz.prog 30 #[.agg (hc h2)] w fun e w' => e = .returned (.agg (hc (ord h2))) ∧ Below w.heap.size w w')) (w : World) : Calls Tryz.prog 18 #[.agg (hc h), .int .i64 384, .int .u64 v] w fun e w' => e = .returned (.tuple #[.agg (hc (ord h2)), .bool true]) ∧ Below w.heap.size w w' := by
  obtain ⟨hv0, hv1⟩ := hv
  go_enter Tryz.func18, Tryz.ntmps18
  have ST := Lib.hid (Kn.nil (S := Step.Nil) (W := w))
  go_wp2_with (first
    | ((with_reducible refine Step.gate_box (t := 25) rfl ?_); refine Step.fresh (cs := hc h) (T := 25) rfl ?hr ?_; (case hr => first | (go_simp; done) | (go_simp; rfl)); intro g3 w1 b hg hb; replace ST := Lib.hid (ST.out.made b hg hb); clear b hb; clear hg)
    | ((with_reducible refine Step.gate_alloc (t := 25) rfl ?_); refine Step.freshAlloc rfl rfl (alloc_agg zero_hart) ?_; intro g6 w2 b hg hb; replace ST := Lib.hid (ST.out.made b hg hb); clear b hb; clear hg)
    | (go_at_call 30; (with_reducible refine (T0.out _).mono ?_); rintro e w' ⟨rfl, hb⟩; replace ST := Lib.hid (ST.out.call hb); clear hb)
    | (go_at_call 30; (with_reducible refine (T1.out _).mono ?_); rintro e w' ⟨rfl, hb⟩; replace ST := Lib.hid (ST.out.call hb); clear hb)
    | ((with_reducible refine Step.gate_store (t := 25) rfl ?_); refine Step.storeAll ST.out.at0 rfl rfl rfl rfl rfl (size_hart _) rfl (hc_all _) ?_; intro w3 nb m; replace ST := Lib.hid (ST.out.set0 nb m); clear nb m)
    | ((with_reducible refine Step.gate_load (t := 25) rfl ?_); refine Step.loadAll ST.out.at0 rfl rfl rfl Tryz.underlying25 rfl (size_hart _) ?_)
    | ((with_reducible refine Step.gate_store (t := 25) rfl ?_); refine Step.storeAll ST.out.at1 rfl rfl rfl rfl rfl (size_hart _) rfl (hc_all _) ?_; intro w3 nb m; replace ST := Lib.hid (ST.out.set1 nb m); clear nb m)
    | ((with_reducible refine Step.gate_load (t := 25) rfl ?_); refine Step.loadAll ST.out.at1 rfl rfl rfl Tryz.underlying25 rfl (size_hart _) ?_)
    | ((with_reducible refine Step.gate_store (t := 22) rfl ?_); refine Step.store ST.out.at1 rfl rfl rfl rfl rfl pl_u64 rfl rfl ?_; intro w3 nb m; simp [go_sem, set_x0, set_pc, set_user, set_on, set_spie, set_spp, set_sum, set_mxr, set_rsv, set_stvec, set_sscr, set_sepc, set_scause, set_stval, set_sie, set_sip, set_satp, set_resv] at nb; replace ST := Lib.hid (ST.out.set1 nb m); clear nb m)
    | ((with_reducible refine Step.gate_load (t := 4) rfl ?_); refine Step.load ST.out.at1 rfl rfl rfl pl_bool (hv_ok _ (by decide)) ?_; simp only [hv_x0, hv_pc, hv_user, hv_on, hv_spie, hv_spp, hv_sum, hv_mxr, hv_rsv, hv_stvec, hv_sscr, hv_sepc, hv_scause, hv_stval, hv_sie, hv_sip, hv_satp, hv_resv, hu])
    | ((with_reducible refine Step.gate_load (t := 22) rfl ?_); refine Step.load ST.out.at1 rfl rfl rfl pl_u64 (hv_ok _ (by decide)) ?_; simp only [hv_x0, hv_pc, hv_user, hv_on, hv_spie, hv_spp, hv_sum, hv_mxr, hv_rsv, hv_stvec, hv_sscr, hv_sepc, hv_scause, hv_stval, hv_sie, hv_sip, hv_satp, hv_resv, hu]))
  all_goals exact bodyPost_ret (results_row_tmp rfl _ _ _ _ _ _ rfl ST.out.at0 Tryz.underlying25 rfl (size_hart _)) rfl ⟨rfl, ST.out.below⟩
set_option maxHeartbeats 4000000 in
theorem write_any_no (h h2 : Hrt) (T0 : Hid (∀ w, Calls Tryz.prog 30 #[.agg (hc h)] w fun e w' => e = .returned (.agg (hc h2)) ∧ Below w.heap.size w w')) (v : Int) (hv : 0 ≤ v ∧ v < 18446744073709551616) (c : Int) (hu : h2.user = false) (hc256 : (c == 256) = false) (hc260 : (c == 260) = false) (hc261 : (c == 261) = false) (hc320 : (c == 320) = false) (hc321 : (c == 321) = false) (hc322 : (c == 322) = false) (hc323 : (c == 323) = false) (hc324 : (c == 324) = false) (hc384 : (c == 384) = false) (w : World) : Calls Tryz.prog 18 #[.agg (hc h), .int .i64 c, .int .u64 v] w fun e w' => e = .returned (.tuple #[.agg (hc h2), .bool false]) ∧ Below w.heap.size w w' := by
  obtain ⟨hv0, hv1⟩ := hv
  go_enter Tryz.func18, Tryz.ntmps18
  have ST := Lib.hid (Kn.nil (S := Step.Nil) (W := w))
  go_wp2_with (first
    | ((with_reducible refine Step.gate_box (t := 25) rfl ?_); refine Step.fresh (cs := hc h) (T := 25) rfl ?hr ?_; (case hr => first | (go_simp; done) | (go_simp; rfl)); intro g3 w1 b hg hb; replace ST := Lib.hid (ST.out.made b hg hb); clear b hb; clear hg)
    | ((with_reducible refine Step.gate_alloc (t := 25) rfl ?_); refine Step.freshAlloc rfl rfl (alloc_agg zero_hart) ?_; intro g6 w2 b hg hb; replace ST := Lib.hid (ST.out.made b hg hb); clear b hb; clear hg)
    | (go_at_call 30; (with_reducible refine (T0.out _).mono ?_); rintro e w' ⟨rfl, hb⟩; replace ST := Lib.hid (ST.out.call hb); clear hb)
    | ((with_reducible refine Step.gate_store (t := 25) rfl ?_); refine Step.storeAll ST.out.at0 rfl rfl rfl rfl rfl (size_hart _) rfl (hc_all _) ?_; intro w3 nb m; replace ST := Lib.hid (ST.out.set0 nb m); clear nb m)
    | ((with_reducible refine Step.gate_load (t := 25) rfl ?_); refine Step.loadAll ST.out.at0 rfl rfl rfl Tryz.underlying25 rfl (size_hart _) ?_)
    | ((with_reducible refine Step.gate_store (t := 25) rfl ?_); refine Step.storeAll ST.out.at1 rfl rfl rfl rfl rfl (size_hart _) rfl (hc_all _) ?_; intro w3 nb m; replace ST := Lib.hid (ST.out.set1 nb m); clear nb m)
    | ((with_reducible refine Step.gate_load (t := 25) rfl ?_); refine Step.loadAll ST.out.at1 rfl rfl rfl Tryz.underlying25 rfl (size_hart _) ?_)
    | ((with_reducible refine Step.gate_store (t := 22) rfl ?_); refine Step.store ST.out.at1 rfl rfl rfl rfl rfl pl_u64 rfl rfl ?_; intro w3 nb m; simp [go_sem, set_x0, set_pc, set_user, set_on, set_spie, set_spp, set_sum, set_mxr, set_rsv, set_stvec, set_sscr, set_sepc, set_scause, set_stval, set_sie, set_sip, set_satp, set_resv] at nb; replace ST := Lib.hid (ST.out.set1 nb m); clear nb m)
    | ((with_reducible refine Step.gate_load (t := 4) rfl ?_); refine Step.load ST.out.at1 rfl rfl rfl pl_bool (hv_ok _ (by decide)) ?_; simp only [hv_x0, hv_pc, hv_user, hv_on, hv_spie, hv_spp, hv_sum, hv_mxr, hv_rsv, hv_stvec, hv_sscr, hv_sepc, hv_scause, hv_stval, hv_sie, hv_sip, hv_satp, hv_resv, hu])
    | ((with_reducible refine Step.gate_load (t := 22) rfl ?_); refine Step.load ST.out.at1 rfl rfl rfl pl_u64 (hv_ok _ (by decide)) ?_; simp only [hv_x0, hv_pc, hv_user, hv_on, hv_spie, hv_spp, hv_sum, hv_mxr, hv_rsv, hv_stvec, hv_sscr, hv_sepc, hv_scause, hv_stval, hv_sie, hv_sip, hv_satp, hv_resv, hu]))
  all_goals exact bodyPost_ret (results_row_tmp rfl _ _ _ _ _ _ rfl ST.out.at0 Tryz.underlying25 rfl (size_hart _)) rfl ⟨rfl, ST.out.below⟩
theorem or_w (a b : Int) : U64 (bits .or .u64 a b) := by
  refine ⟨?_⟩
  show 0 ≤ IntKind.u64.wrap _ ∧ IntKind.u64.wrap _ < _
  show 0 ≤ (_ : Int) % 18446744073709551616 ∧ (_ : Int) % 18446744073709551616 < 18446744073709551616
  omega
theorem write_any (h : Hrt) (hf : Fit h) (c v : Int) (hv : U64 v) (w : World) : Calls Tryz.prog 18 #[.agg (hc h), .int .i64 c, .int .u64 v] w fun e w' => e = .returned (.tuple #[.agg (hc (wrH (ord h) c v).1), .bool (wrH (ord h) c v).2]) ∧ Below w.heap.size w w' := by
  have T0 := Lib.hid (order_any h hf)
  have F := ord_fit hf
  have OA := order_any
  clear hf
  generalize ord h = h2 at T0 F ⊢
  cases hu : h2.user
  · by_cases c256 : c = 256
    · subst c256
      have e : wrH h2 256 v = (ord { h2 with on := bt v 2, spie := bt v 32, spp := bt v 256, sum := bt v 262144, mxr := bt v 524288, user := false }, true) := by simp [wrH, hu]
      rw [e]; exact write_any_256 h h2 T0 v hv.out hu (bit_ne hv 1 2 rfl (by decide)) (bit_ne hv 5 32 rfl (by decide)) (bit_ne hv 8 256 rfl (by decide)) (bit_ne hv 18 262144 rfl (by decide)) (bit_ne hv 19 524288 rfl (by decide)) (Lib.hid (fun w => OA { h2 with on := bt v 2, spie := bt v 32, spp := bt v 256, sum := bt v 262144, mxr := bt v 524288, user := false } ⟨F.x, F.pc, F.stvec, F.sscr, F.sepc, F.scause, F.stval, F.sie, F.sip, F.satp, F.resv⟩ w)) w
    by_cases c260 : c = 260
    · subst c260
      have e : wrH h2 260 v = (ord { h2 with sie := v, user := false }, true) := by simp [wrH, hu]
      rw [e]; exact write_any_260 h h2 T0 v hv.out hu (Lib.hid (fun w => OA { h2 with sie := v, user := false } ⟨F.x, F.pc, F.stvec, F.sscr, F.sepc, F.scause, F.stval, hv, F.sip, F.satp, F.resv⟩ w)) w
    by_cases c261 : c = 261
    · subst c261
      have e : wrH h2 261 v = (ord { h2 with stvec := v, user := false }, true) := by simp [wrH, hu]
      rw [e]; exact write_any_261 h h2 T0 v hv.out hu (Lib.hid (fun w => OA { h2 with stvec := v, user := false } ⟨F.x, F.pc, hv, F.sscr, F.sepc, F.scause, F.stval, F.sie, F.sip, F.satp, F.resv⟩ w)) w
    by_cases c320 : c = 320
    · subst c320
      have e : wrH h2 320 v = (ord { h2 with sscr := v, user := false }, true) := by simp [wrH, hu]
      rw [e]; exact write_any_320 h h2 T0 v hv.out hu (Lib.hid (fun w => OA { h2 with sscr := v, user := false } ⟨F.x, F.pc, F.stvec, hv, F.sepc, F.scause, F.stval, F.sie, F.sip, F.satp, F.resv⟩ w)) w
    by_cases c321 : c = 321
    · subst c321
      have e : wrH h2 321 v = (ord { h2 with sepc := v, user := false }, true) := by simp [wrH, hu]
      rw [e]; exact write_any_321 h h2 T0 v hv.out hu (Lib.hid (fun w => OA { h2 with sepc := v, user := false } ⟨F.x, F.pc, F.stvec, F.sscr, hv, F.scause, F.stval, F.sie, F.sip, F.satp, F.resv⟩ w)) w
    by_cases c322 : c = 322
    · subst c322
      have e : wrH h2 322 v = (ord { h2 with scause := v, user := false }, true) := by simp [wrH, hu]
      rw [e]; exact write_any_322 h h2 T0 v hv.out hu (Lib.hid (fun w => OA { h2 with scause := v, user := false } ⟨F.x, F.pc, F.stvec, F.sscr, F.sepc, hv, F.stval, F.sie, F.sip, F.satp, F.resv⟩ w)) w
    by_cases c323 : c = 323
    · subst c323
      have e : wrH h2 323 v = (ord { h2 with stval := v, user := false }, true) := by simp [wrH, hu]
      rw [e]; exact write_any_323 h h2 T0 v hv.out hu (Lib.hid (fun w => OA { h2 with stval := v, user := false } ⟨F.x, F.pc, F.stvec, F.sscr, F.sepc, F.scause, hv, F.sie, F.sip, F.satp, F.resv⟩ w)) w
    by_cases c324 : c = 324
    · subst c324
      have e : wrH h2 324 v = (ord { h2 with sip := bits .or .u64 (bits .andNot .u64 h2.sip 2) (bits .and .u64 v 2), user := false }, true) := by simp [wrH, hu]
      rw [e]; exact write_any_324 h h2 T0 v hv.out hu (Lib.hid (fun w => OA { h2 with sip := bits .or .u64 (bits .andNot .u64 h2.sip 2) (bits .and .u64 v 2), user := false } ⟨F.x, F.pc, F.stvec, F.sscr, F.sepc, F.scause, F.stval, F.sie, (or_w _ _), F.satp, F.resv⟩ w)) w
    by_cases c384 : c = 384
    · subst c384
      by_cases h0 : v / 1152921504606846976 = 0
      · have e : wrH h2 384 v = (ord { h2 with satp := v, user := false }, true) := by simp [wrH, hu, h0]
        rw [e]; exact write_any_384a h h2 T0 v hv.out hu (beq_iff_eq.2 h0) (Lib.hid (fun w => OA { h2 with satp := v, user := false } ⟨F.x, F.pc, F.stvec, F.sscr, F.sepc, F.scause, F.stval, F.sie, F.sip, hv, F.resv⟩ w)) w
      · by_cases h8 : v / 1152921504606846976 = 8
        · have e : wrH h2 384 v = (ord { h2 with satp := v, user := false }, true) := by simp [wrH, hu, h8]
          rw [e]; exact write_any_384b h h2 T0 v hv.out hu (beq_eq_false_iff_ne.2 h0) (beq_iff_eq.2 h8) (Lib.hid (fun w => OA { h2 with satp := v, user := false } ⟨F.x, F.pc, F.stvec, F.sscr, F.sepc, F.scause, F.stval, F.sie, F.sip, hv, F.resv⟩ w)) w
        · have e : wrH h2 384 v = (ord h2, true) := by simp [wrH, hu, h0, h8]
          rw [e]; exact write_any_384c h h2 T0 v hv.out hu (beq_eq_false_iff_ne.2 h0) (beq_eq_false_iff_ne.2 h8) (Lib.hid (fun w => OA h2 F w)) w
    have e : wrH h2 c v = (h2, false) := by simp [wrH, hu, c256, c260, c261, c320, c321, c322, c323, c324, c384]
    rw [e]; exact write_any_no h h2 T0 v hv.out c hu (beq_eq_false_iff_ne.2 c256) (beq_eq_false_iff_ne.2 c260) (beq_eq_false_iff_ne.2 c261) (beq_eq_false_iff_ne.2 c320) (beq_eq_false_iff_ne.2 c321) (beq_eq_false_iff_ne.2 c322) (beq_eq_false_iff_ne.2 c323) (beq_eq_false_iff_ne.2 c324) (beq_eq_false_iff_ne.2 c384) w
  · have e : wrH h2 c v = (h2, false) := by simp [wrH, hu]
    rw [e]; exact write_any_user h h2 T0 v hv.out hu c w
end Go.Proofs.YthkodjkkcgdmfaaGreat.Hart
end
