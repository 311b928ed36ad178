/- Parts of the walks and laws for the claim: HrtE; no conditions beyond the theorems' own. -/
import Derived.Test.YtecpkipgkaaefaaP6
section
namespace Go.Proofs.Ytecpkipgkaaefaa.Hart
open Go Go.RowKit Go.Proofs.Ytecpkipgkaaefaa.Step Go.Proofs.Ytecpkipgkaaefaa.Enc
set_option linter.unusedVariables false
set_option linter.unusedSimpArgs false
set_option maxRecDepth 100000
/-- A hart in order that has trapped. -/
def trg (h : Hrt) (c v : Int) : Hrt := { h with sepc := h.pc, scause := c, stval := v, spp := !h.user, spie := h.on, on := false, user := false, pc := if 9223372036854775808 ≤ c ∧ h.stvec % 2 = 1 then IntKind.u64.wrap (h.stvec / 4 * 4 + IntKind.u64.wrap (4 * (c - 9223372036854775808))) else h.stvec / 4 * 4 }
theorem u_mask {a : Int} (s : Nat) (h : U64 a) (hs : s < 64) : bits .and .u64 a ((2 ^ s - 1 : Nat) : Int) = a % (2 ^ s : Nat) := by
  have hp : 2 ^ s < 18446744073709551616 := Nat.pow_lt_pow_right (by decide) hs
  rw [u64_and _ _ h.out.1 h.out.2 (by omega) (by omega), Int.toNat_natCast, Nat.and_two_pow_sub_one_eq_mod]
  obtain ⟨A, rfl⟩ := Int.eq_ofNat_of_zero_le h.out.1
  rw [Int.toNat_natCast, Int.natCast_emod]
theorem top_lo {c : Nat} (h : c < 9223372036854775808) : c &&& 9223372036854775808 = 0 := by
  apply Nat.eq_of_testBit_eq
  intro i
  rw [Nat.testBit_and, Nat.zero_testBit, show 9223372036854775808 = 2 ^ 63 from rfl, Nat.testBit_two_pow]
  by_cases hi : 63 = i
  · subst hi
    rw [Nat.testBit_lt_two_pow (show c < 2 ^ 63 from h)]; rfl
  · simp [hi]
theorem top_hi {c : Nat} (h : 9223372036854775808 ≤ c) (h2 : c < 18446744073709551616) : c &&& 9223372036854775808 = 9223372036854775808 ∧ c &&& 9223372036854775807 = c - 9223372036854775808 := by
  have e : c = 2 ^ 63 + (c - 9223372036854775808) := by omega
  constructor
  · apply Nat.eq_of_testBit_eq
    intro i
    rw [Nat.testBit_and, show 9223372036854775808 = 2 ^ 63 from rfl, Nat.testBit_two_pow]
    by_cases hi : 63 = i
    · subst hi
      rw [e, Nat.testBit_two_pow_add_eq, Nat.testBit_lt_two_pow (show c - 9223372036854775808 < 2 ^ 63 by omega)]; rfl
    · simp [hi]
  · rw [show (9223372036854775807 : Nat) = 2 ^ 63 - 1 from rfl, Nat.and_two_pow_sub_one_eq_mod]
    omega
theorem int_lo {c : Int} (h : U64 c) (hl : c < 9223372036854775808) : (bits .and .u64 c 9223372036854775808 != 0) = false := by
  rw [u64_and _ _ h.out.1 h.out.2 (by decide) (by decide), show (9223372036854775808 : Int).toNat = 9223372036854775808 from rfl, top_lo (by have := h.out; omega)]; rfl
theorem int_hi {c : Int} (h : U64 c) (hl : 9223372036854775808 ≤ c) : (bits .and .u64 c 9223372036854775808 != 0) = true ∧ bits .andNot .u64 c 9223372036854775808 = c - 9223372036854775808 := by
  have hh := h.out
  obtain ⟨C, rfl⟩ := Int.eq_ofNat_of_zero_le hh.1
  have t := top_hi (c := C) (by omega) (by omega)
  constructor
  · have e := u64_and_nat C 9223372036854775808 (by omega) (by decide)
    rw [t.1] at e
    rw [show (bits .and .u64 (C : Int) 9223372036854775808) = ((9223372036854775808 : Nat) : Int) from e]; rfl
  · have e := u64_andNot_nat C 9223372036854775808 (by omega) (by decide)
    rw [show 18446744073709551615 - 9223372036854775808 = 9223372036854775807 from rfl, t.2] at e
    exact e.trans (by omega)
theorem u_one {v : Int} (h : U64 v) : bits .and .u64 v 1 = v % 2 := u_mask 1 h (by decide)
theorem msk_w (v : Int) : U64 (msk v) := by
  have := (BitVec.ofInt 64 v &&& BitVec.ofInt 64 546).isLt
  refine ⟨?_⟩
  show 0 ≤ IntKind.u64.wrap _ ∧ IntKind.u64.wrap _ < _
  show 0 ≤ (_ : Int) % 18446744073709551616 ∧ (_ : Int) % 18446744073709551616 < 18446744073709551616
  omega
theorem ord_stvec {h : Hrt} (hf : Fit h) : U64 (ord h).stvec := ⟨by have := hf.stvec.out; show 0 ≤ h.stvec / 4 * 4 + h.stvec % 2 ∧ h.stvec / 4 * 4 + h.stvec % 2 < 18446744073709551616; omega⟩
theorem and_bv (x : Int) : msk x = ((BitVec.ofInt 64 x &&& BitVec.ofInt 64 546).toNat : Int) := by
  show IntKind.u64.wrap ((BitVec.ofInt 64 x &&& BitVec.ofInt 64 546).toNat : Int) = _
  have := (BitVec.ofInt 64 x &&& BitVec.ofInt 64 546).isLt
  show (_ : Int) % 18446744073709551616 = _
  omega
theorem msk_msk (x : Int) : msk (msk x) = msk x := by
  rw [and_bv (msk x), and_bv x, BitVec.ofInt_natCast, BitVec.ofNat_toNat, BitVec.setWidth_eq, BitVec.and_assoc, BitVec.and_self]
theorem ord_fit {h : Hrt} (hf : Fit h) : Fit (ord h) where
  x := fun i hi => by
    show U64 (xup h.x 0 0 i)
    unfold xup
    split
    · exact ⟨by decide, by decide⟩
    · exact hf.x i hi
  pc := ⟨by have := hf.pc.out; show 0 ≤ h.pc / 2 * 2 ∧ h.pc / 2 * 2 < 18446744073709551616; omega⟩
  stvec := ord_stvec hf
  sscr := hf.sscr
  sepc := ⟨by have := hf.sepc.out; show 0 ≤ h.sepc / 2 * 2 ∧ h.sepc / 2 * 2 < 18446744073709551616; omega⟩
  scause := hf.scause
  stval := hf.stval
  sie := msk_w _
  sip := msk_w _
  satp := hf.satp
  resv := hf.resv
theorem wrap_w (v : Int) : U64 (IntKind.u64.wrap v) := by refine ⟨?_⟩; rw [IntKind.wrap_u64]; omega
theorem trg_fit {h : Hrt} (hf : Fit h) {c v : Int} (hc : U64 c) (hv : U64 v) : Fit (trg h c v) :=
  { hf with pc := (by
      show U64 (if _ then _ else _)
      split
      · exact wrap_w _
      · exact ⟨by have := hf.stvec.out; show 0 ≤ h.stvec / 4 * 4 ∧ h.stvec / 4 * 4 < 18446744073709551616; omega⟩), sepc := hf.pc, scause := hc, stval := hv }
theorem ord_of {t : Hrt} (hx : xup t.x 0 0 = t.x) (h1 : t.pc / 2 * 2 = t.pc) (h2 : t.sepc / 2 * 2 = t.sepc) (h3 : t.stvec / 4 * 4 + t.stvec % 2 = t.stvec) (h4 : msk t.sie = t.sie) (h5 : msk t.sip = t.sip) : ord t = t := by
  cases t
  simp_all [ord]
theorem xup_xup (x : Nat → Int) : xup (xup x 0 0) 0 0 = xup x 0 0 := by
  funext k
  unfold xup
  split <;> rfl
theorem ord_trg (h : Hrt) (c v : Int) : ord (trg (ord h) c v) = trg (ord h) c v := by
  refine ord_of (xup_xup _) ?_ ?_ ?_ (msk_msk _) (msk_msk _)
  · unfold trg
    dsimp only
    split
    · rw [IntKind.wrap_u64, IntKind.wrap_u64]; omega
    · omega
  · show h.pc / 2 * 2 / 2 * 2 = h.pc / 2 * 2; omega
  · show (h.stvec / 4 * 4 + h.stvec % 2) / 4 * 4 + (h.stvec / 4 * 4 + h.stvec % 2) % 2 = h.stvec / 4 * 4 + h.stvec % 2; omega
set_option maxHeartbeats 4000000 in
theorem trap_any (h : Hrt) (hf : Fit h) (c v : Int) (hcc : U64 c) (hv : U64 v) (w : World) : Calls Try.prog 21 #[.agg (hc h), .int .u64 c, .int .u64 v] w fun e w' => e = .returned (.agg (hc (trg (ord h) c v))) ∧ Below w.heap.size w w' := by
  have T0 := Lib.hid (order_any h hf)
  have e1 := u_an3 (ord_stvec hf)
  have e2 := u_one (ord_stvec hf)
  have p := (ord_stvec hf).out
  have q : IntKind.u64.wrap ((ord h).stvec / 4 * 4) = (ord h).stvec / 4 * 4 := IntWalk.u64_in _ (by omega)
  have hlo := fun hl => int_lo hcc hl
  have hhi := fun hl => int_hi hcc hl
  have pc := hcc.out
  clear hf hv hcc
  generalize ord h = h2 at *
  unfold trg at *
  by_cases hl : c < 9223372036854775808
  · have e3 := hlo hl
    have e4 : (c ≥ 9223372036854775808) = False := eq_false (by omega)
    simp only [if_neg (show ¬ (9223372036854775808 ≤ c ∧ h2.stvec % 2 = 1) by omega)] at *
    clear hlo hhi
    go_enter Try.func21, Try.ntmps21
    go_wp2_with (first
      | (go_at_call 34; (with_reducible refine (T0.out _).mono ?_); rintro e w' ⟨rfl, hb⟩; replace ST := Lib.hid (ST.out.call hb); clear hb)
      | ((with_reducible refine Step.gate_box (t := 25) rfl ?_); refine Step.fresh (cs := hc h) (T := 25) rfl ?hr ?_; (case hr => first | (go_simp; done) | (go_simp; rfl)); intro g1 w1 b hg hb; have ST := Lib.hid (S1.made b hg hb); clear b hg hb)
      | ((with_reducible refine Step.gate_alloc (t := 25) rfl ?_); refine Step.freshAlloc rfl rfl (alloc_agg zero_hart) ?_; intro g2 w2 b hg hb; replace ST := Lib.hid (ST.out.more b hg hb); clear b hg hb)
      | ((with_reducible refine Step.gate_store (t := 22) rfl ?_); refine Step.store ST.out.one rfl rfl rfl rfl rfl pl_u64 rfl rfl ?_; intro w3 nb m; simp [go_sem, set_x0, set_pc, set_user, set_on, set_spie, set_spp, set_sum, set_mxr, set_rsv, set_stvec, set_sscr, set_sepc, set_scause, set_stval, set_sie, set_sip, set_satp, set_resv] at nb; replace ST := Lib.hid (ST.out.set1 nb m); clear nb m)
      | ((with_reducible refine Step.gate_store (t := 4) rfl ?_); refine Step.store ST.out.one rfl rfl rfl rfl rfl pl_bool rfl rfl ?_; intro w3 nb m; simp [go_sem, set_x0, set_pc, set_user, set_on, set_spie, set_spp, set_sum, set_mxr, set_rsv, set_stvec, set_sscr, set_sepc, set_scause, set_stval, set_sie, set_sip, set_satp, set_resv] at nb; replace ST := Lib.hid (ST.out.set1 nb m); clear nb m)
      | ((with_reducible refine Step.gate_load (t := 22) rfl ?_); refine Step.load ST.out.one rfl rfl rfl pl_u64 (hv_ok _ (by decide)) ?_; simp only [hv_x0, hv_pc, hv_user, hv_on, hv_spie, hv_spp, hv_sum, hv_mxr, hv_rsv, hv_stvec, hv_sscr, hv_sepc, hv_scause, hv_stval, hv_sie, hv_sip, hv_satp, hv_resv])
      | ((with_reducible refine Step.gate_load (t := 4) rfl ?_); refine Step.load ST.out.one rfl rfl rfl pl_bool (hv_ok _ (by decide)) ?_; simp only [hv_x0, hv_pc, hv_user, hv_on, hv_spie, hv_spp, hv_sum, hv_mxr, hv_rsv, hv_stvec, hv_sscr, hv_sepc, hv_scause, hv_stval, hv_sie, hv_sip, hv_satp, hv_resv])
      | ((with_reducible refine Step.gate_store (t := 25) rfl ?_); refine Step.storeAll ST.out.one rfl rfl rfl rfl rfl (size_hart _) rfl (hc_all _) ?_; intro w3 nb m; replace ST := Lib.hid (ST.out.set1 nb m); clear nb m)
      | ((with_reducible refine Step.gate_load (t := 25) rfl ?_); refine Step.loadAll ST.out.one rfl rfl rfl Try.underlying25 rfl (size_hart _) ?_)
      | ((with_reducible refine Step.gate_store (t := 22) rfl ?_); refine Step.store ST.out.two rfl rfl rfl rfl rfl pl_u64 rfl rfl ?_; intro w3 nb m; simp [go_sem, set_x0, set_pc, set_user, set_on, set_spie, set_spp, set_sum, set_mxr, set_rsv, set_stvec, set_sscr, set_sepc, set_scause, set_stval, set_sie, set_sip, set_satp, set_resv] at nb; replace ST := Lib.hid (ST.out.set2 nb m); clear nb m)
      | ((with_reducible refine Step.gate_store (t := 4) rfl ?_); refine Step.store ST.out.two rfl rfl rfl rfl rfl pl_bool rfl rfl ?_; intro w3 nb m; simp [go_sem, set_x0, set_pc, set_user, set_on, set_spie, set_spp, set_sum, set_mxr, set_rsv, set_stvec, set_sscr, set_sepc, set_scause, set_stval, set_sie, set_sip, set_satp, set_resv] at nb; replace ST := Lib.hid (ST.out.set2 nb m); clear nb m)
      | ((with_reducible refine Step.gate_load (t := 22) rfl ?_); refine Step.load ST.out.two rfl rfl rfl pl_u64 (hv_ok _ (by decide)) ?_; simp only [hv_x0, hv_pc, hv_user, hv_on, hv_spie, hv_spp, hv_sum, hv_mxr, hv_rsv, hv_stvec, hv_sscr, hv_sepc, hv_scause, hv_stval, hv_sie, hv_sip, hv_satp, hv_resv])
      | ((with_reducible refine Step.gate_load (t := 4) rfl ?_); refine Step.load ST.out.two rfl rfl rfl pl_bool (hv_ok _ (by decide)) ?_; simp only [hv_x0, hv_pc, hv_user, hv_on, hv_spie, hv_spp, hv_sum, hv_mxr, hv_rsv, hv_stvec, hv_sscr, hv_sepc, hv_scause, hv_stval, hv_sie, hv_sip, hv_satp, hv_resv])
      | ((with_reducible refine Step.gate_store (t := 25) rfl ?_); refine Step.storeAll ST.out.two rfl rfl rfl rfl rfl (size_hart _) rfl (hc_all _) ?_; intro w3 nb m; replace ST := Lib.hid (ST.out.set2 nb m); clear nb m)
      | ((with_reducible refine Step.gate_load (t := 25) rfl ?_); refine Step.loadAll ST.out.two rfl rfl rfl Try.underlying25 rfl (size_hart _) ?_)
      | ((with_reducible refine Step.gate_load (t := 22) rfl ?_); refine Step.loadG ST.out.one rfl rfl rfl pl_u64 (hv_ok _ (by decide)) ?_; simp only [hv_x0, hv_pc, hv_user, hv_on, hv_spie, hv_spp, hv_sum, hv_mxr, hv_rsv, hv_stvec, hv_sscr, hv_sepc, hv_scause, hv_stval, hv_sie, hv_sip, hv_satp, hv_resv])
      | ((with_reducible refine Step.gate_load (t := 4) rfl ?_); refine Step.loadG ST.out.one rfl rfl rfl pl_bool (hv_ok _ (by decide)) ?_; simp only [hv_x0, hv_pc, hv_user, hv_on, hv_spie, hv_spp, hv_sum, hv_mxr, hv_rsv, hv_stvec, hv_sscr, hv_sepc, hv_scause, hv_stval, hv_sie, hv_sip, hv_satp, hv_resv])
      | ((with_reducible refine Step.gate_load (t := 22) rfl ?_); refine Step.loadG ST.out.two rfl rfl rfl pl_u64 (hv_ok _ (by decide)) ?_; simp only [hv_x0, hv_pc, hv_user, hv_on, hv_spie, hv_spp, hv_sum, hv_mxr, hv_rsv, hv_stvec, hv_sscr, hv_sepc, hv_scause, hv_stval, hv_sie, hv_sip, hv_satp, hv_resv])
      | ((with_reducible refine Step.gate_load (t := 4) rfl ?_); refine Step.loadG ST.out.two rfl rfl rfl pl_bool (hv_ok _ (by decide)) ?_; simp only [hv_x0, hv_pc, hv_user, hv_on, hv_spie, hv_spp, hv_sum, hv_mxr, hv_rsv, hv_stvec, hv_sscr, hv_sepc, hv_scause, hv_stval, hv_sie, hv_sip, hv_satp, hv_resv]))
    all_goals ((try simp only [Act.put, List.setIfInBounds_toArray, List.set_cons_zero, List.set_cons_succ]); refine bodyPost_ret (results_row rfl _ _ g2 _ _ _ rfl ST.out.two Try.underlying25 rfl (size_hart _)) rfl ⟨rfl, ST.out.below⟩)
  · obtain ⟨e3, e4⟩ := hhi (by omega)
    have e5 : IntKind.u64.wrap (c - 9223372036854775808) = c - 9223372036854775808 := IntWalk.u64_in _ (by omega)
    have e6 : (c ≥ 9223372036854775808) = True := eq_true (by omega)
    clear hlo hhi
    by_cases ho : h2.stvec % 2 = 1
    · simp only [if_pos (show (9223372036854775808 ≤ c ∧ h2.stvec % 2 = 1) from ⟨by omega, ho⟩)] at *
      rw [ho] at e2
      go_enter Try.func21, Try.ntmps21
      go_wp2_with (first
        | (go_at_call 34; (with_reducible refine (T0.out _).mono ?_); rintro e w' ⟨rfl, hb⟩; replace ST := Lib.hid (ST.out.call hb); clear hb)
        | ((with_reducible refine Step.gate_box (t := 25) rfl ?_); refine Step.fresh (cs := hc h) (T := 25) rfl ?hr ?_; (case hr => first | (go_simp; done) | (go_simp; rfl)); intro g1 w1 b hg hb; have ST := Lib.hid (S1.made b hg hb); clear b hg hb)
        | ((with_reducible refine Step.gate_alloc (t := 25) rfl ?_); refine Step.freshAlloc rfl rfl (alloc_agg zero_hart) ?_; intro g2 w2 b hg hb; replace ST := Lib.hid (ST.out.more b hg hb); clear b hg hb)
        | ((with_reducible refine Step.gate_store (t := 22) rfl ?_); refine Step.store ST.out.one rfl rfl rfl rfl rfl pl_u64 rfl rfl ?_; intro w3 nb m; simp [go_sem, set_x0, set_pc, set_user, set_on, set_spie, set_spp, set_sum, set_mxr, set_rsv, set_stvec, set_sscr, set_sepc, set_scause, set_stval, set_sie, set_sip, set_satp, set_resv] at nb; replace ST := Lib.hid (ST.out.set1 nb m); clear nb m)
        | ((with_reducible refine Step.gate_store (t := 4) rfl ?_); refine Step.store ST.out.one rfl rfl rfl rfl rfl pl_bool rfl rfl ?_; intro w3 nb m; simp [go_sem, set_x0, set_pc, set_user, set_on, set_spie, set_spp, set_sum, set_mxr, set_rsv, set_stvec, set_sscr, set_sepc, set_scause, set_stval, set_sie, set_sip, set_satp, set_resv] at nb; replace ST := Lib.hid (ST.out.set1 nb m); clear nb m)
        | ((with_reducible refine Step.gate_load (t := 22) rfl ?_); refine Step.load ST.out.one rfl rfl rfl pl_u64 (hv_ok _ (by decide)) ?_; simp only [hv_x0, hv_pc, hv_user, hv_on, hv_spie, hv_spp, hv_sum, hv_mxr, hv_rsv, hv_stvec, hv_sscr, hv_sepc, hv_scause, hv_stval, hv_sie, hv_sip, hv_satp, hv_resv])
        | ((with_reducible refine Step.gate_load (t := 4) rfl ?_); refine Step.load ST.out.one rfl rfl rfl pl_bool (hv_ok _ (by decide)) ?_; simp only [hv_x0, hv_pc, hv_user, hv_on, hv_spie, hv_spp, hv_sum, hv_mxr, hv_rsv, hv_stvec, hv_sscr, hv_sepc, hv_scause, hv_stval, hv_sie, hv_sip, hv_satp, hv_resv])
        | ((with_reducible refine Step.gate_store (t := 25) rfl ?_); refine Step.storeAll ST.out.one rfl rfl rfl rfl rfl (size_hart _) rfl (hc_all _) ?_; intro w3 nb m; replace ST := Lib.hid (ST.out.set1 nb m); clear nb m)
        | ((with_reducible refine Step.gate_load (t := 25) rfl ?_); refine Step.loadAll ST.out.one rfl rfl rfl Try.underlying25 rfl (size_hart _) ?_)
        | ((with_reducible refine Step.gate_store (t := 22) rfl ?_); refine Step.store ST.out.two rfl rfl rfl rfl rfl pl_u64 rfl rfl ?_; intro w3 nb m; simp [go_sem, set_x0, set_pc, set_user, set_on, set_spie, set_spp, set_sum, set_mxr, set_rsv, set_stvec, set_sscr, set_sepc, set_scause, set_stval, set_sie, set_sip, set_satp, set_resv] at nb; replace ST := Lib.hid (ST.out.set2 nb m); clear nb m)
        | ((with_reducible refine Step.gate_store (t := 4) rfl ?_); refine Step.store ST.out.two rfl rfl rfl rfl rfl pl_bool rfl rfl ?_; intro w3 nb m; simp [go_sem, set_x0, set_pc, set_user, set_on, set_spie, set_spp, set_sum, set_mxr, set_rsv, set_stvec, set_sscr, set_sepc, set_scause, set_stval, set_sie, set_sip, set_satp, set_resv] at nb; replace ST := Lib.hid (ST.out.set2 nb m); clear nb m)
        | ((with_reducible refine Step.gate_load (t := 22) rfl ?_); refine Step.load ST.out.two rfl rfl rfl pl_u64 (hv_ok _ (by decide)) ?_; simp only [hv_x0, hv_pc, hv_user, hv_on, hv_spie, hv_spp, hv_sum, hv_mxr, hv_rsv, hv_stvec, hv_sscr, hv_sepc, hv_scause, hv_stval, hv_sie, hv_sip, hv_satp, hv_resv])
        | ((with_reducible refine Step.gate_load (t := 4) rfl ?_); refine Step.load ST.out.two rfl rfl rfl pl_bool (hv_ok _ (by decide)) ?_; simp only [hv_x0, hv_pc, hv_user, hv_on, hv_spie, hv_spp, hv_sum, hv_mxr, hv_rsv, hv_stvec, hv_sscr, hv_sepc, hv_scause, hv_stval, hv_sie, hv_sip, hv_satp, hv_resv])
        | ((with_reducible refine Step.gate_store (t := 25) rfl ?_); refine Step.storeAll ST.out.two rfl rfl rfl rfl rfl (size_hart _) rfl (hc_all _) ?_; intro w3 nb m; replace ST := Lib.hid (ST.out.set2 nb m); clear nb m)
        | ((with_reducible refine Step.gate_load (t := 25) rfl ?_); refine Step.loadAll ST.out.two rfl rfl rfl Try.underlying25 rfl (size_hart _) ?_)
        | ((with_reducible refine Step.gate_load (t := 22) rfl ?_); refine Step.loadG ST.out.one rfl rfl rfl pl_u64 (hv_ok _ (by decide)) ?_; simp only [hv_x0, hv_pc, hv_user, hv_on, hv_spie, hv_spp, hv_sum, hv_mxr, hv_rsv, hv_stvec, hv_sscr, hv_sepc, hv_scause, hv_stval, hv_sie, hv_sip, hv_satp, hv_resv])
        | ((with_reducible refine Step.gate_load (t := 4) rfl ?_); refine Step.loadG ST.out.one rfl rfl rfl pl_bool (hv_ok _ (by decide)) ?_; simp only [hv_x0, hv_pc, hv_user, hv_on, hv_spie, hv_spp, hv_sum, hv_mxr, hv_rsv, hv_stvec, hv_sscr, hv_sepc, hv_scause, hv_stval, hv_sie, hv_sip, hv_satp, hv_resv])
        | ((with_reducible refine Step.gate_load (t := 22) rfl ?_); refine Step.loadG ST.out.two rfl rfl rfl pl_u64 (hv_ok _ (by decide)) ?_; simp only [hv_x0, hv_pc, hv_user, hv_on, hv_spie, hv_spp, hv_sum, hv_mxr, hv_rsv, hv_stvec, hv_sscr, hv_sepc, hv_scause, hv_stval, hv_sie, hv_sip, hv_satp, hv_resv])
        | ((with_reducible refine Step.gate_load (t := 4) rfl ?_); refine Step.loadG ST.out.two rfl rfl rfl pl_bool (hv_ok _ (by decide)) ?_; simp only [hv_x0, hv_pc, hv_user, hv_on, hv_spie, hv_spp, hv_sum, hv_mxr, hv_rsv, hv_stvec, hv_sscr, hv_sepc, hv_scause, hv_stval, hv_sie, hv_sip, hv_satp, hv_resv]))
      all_goals ((try simp only [Act.put, List.setIfInBounds_toArray, List.set_cons_zero, List.set_cons_succ]); refine bodyPost_ret (results_row rfl _ _ g2 _ _ _ rfl ST.out.two Try.underlying25 rfl (size_hart _)) rfl ⟨rfl, ST.out.below⟩)
    · simp only [if_neg (show ¬ (9223372036854775808 ≤ c ∧ h2.stvec % 2 = 1) from fun h => ho h.2)] at *
      have ho2 : (bits .and .u64 h2.stvec 1 == 1) = false := by rw [e2]; exact beq_eq_false_iff_ne.2 ho
      have ho3 : (h2.stvec % 2 == 1) = false := beq_eq_false_iff_ne.2 ho
      clear e2
      go_enter Try.func21, Try.ntmps21
      go_wp2_with (first
        | (go_at_call 34; (with_reducible refine (T0.out _).mono ?_); rintro e w' ⟨rfl, hb⟩; replace ST := Lib.hid (ST.out.call hb); clear hb)
        | ((with_reducible refine Step.gate_box (t := 25) rfl ?_); refine Step.fresh (cs := hc h) (T := 25) rfl ?hr ?_; (case hr => first | (go_simp; done) | (go_simp; rfl)); intro g1 w1 b hg hb; have ST := Lib.hid (S1.made b hg hb); clear b hg hb)
        | ((with_reducible refine Step.gate_alloc (t := 25) rfl ?_); refine Step.freshAlloc rfl rfl (alloc_agg zero_hart) ?_; intro g2 w2 b hg hb; replace ST := Lib.hid (ST.out.more b hg hb); clear b hg hb)
        | ((with_reducible refine Step.gate_store (t := 22) rfl ?_); refine Step.store ST.out.one rfl rfl rfl rfl rfl pl_u64 rfl rfl ?_; intro w3 nb m; simp [go_sem, set_x0, set_pc, set_user, set_on, set_spie, set_spp, set_sum, set_mxr, set_rsv, set_stvec, set_sscr, set_sepc, set_scause, set_stval, set_sie, set_sip, set_satp, set_resv] at nb; replace ST := Lib.hid (ST.out.set1 nb m); clear nb m)
        | ((with_reducible refine Step.gate_store (t := 4) rfl ?_); refine Step.store ST.out.one rfl rfl rfl rfl rfl pl_bool rfl rfl ?_; intro w3 nb m; simp [go_sem, set_x0, set_pc, set_user, set_on, set_spie, set_spp, set_sum, set_mxr, set_rsv, set_stvec, set_sscr, set_sepc, set_scause, set_stval, set_sie, set_sip, set_satp, set_resv] at nb; replace ST := Lib.hid (ST.out.set1 nb m); clear nb m)
        | ((with_reducible refine Step.gate_load (t := 22) rfl ?_); refine Step.load ST.out.one rfl rfl rfl pl_u64 (hv_ok _ (by decide)) ?_; simp only [hv_x0, hv_pc, hv_user, hv_on, hv_spie, hv_spp, hv_sum, hv_mxr, hv_rsv, hv_stvec, hv_sscr, hv_sepc, hv_scause, hv_stval, hv_sie, hv_sip, hv_satp, hv_resv])
        | ((with_reducible refine Step.gate_load (t := 4) rfl ?_); refine Step.load ST.out.one rfl rfl rfl pl_bool (hv_ok _ (by decide)) ?_; simp only [hv_x0, hv_pc, hv_user, hv_on, hv_spie, hv_spp, hv_sum, hv_mxr, hv_rsv, hv_stvec, hv_sscr, hv_sepc, hv_scause, hv_stval, hv_sie, hv_sip, hv_satp, hv_resv])
        | ((with_reducible refine Step.gate_store (t := 25) rfl ?_); refine Step.storeAll ST.out.one rfl rfl rfl rfl rfl (size_hart _) rfl (hc_all _) ?_; intro w3 nb m; replace ST := Lib.hid (ST.out.set1 nb m); clear nb m)
        | ((with_reducible refine Step.gate_load (t := 25) rfl ?_); refine Step.loadAll ST.out.one rfl rfl rfl Try.underlying25 rfl (size_hart _) ?_)
        | ((with_reducible refine Step.gate_store (t := 22) rfl ?_); refine Step.store ST.out.two rfl rfl rfl rfl rfl pl_u64 rfl rfl ?_; intro w3 nb m; simp [go_sem, set_x0, set_pc, set_user, set_on, set_spie, set_spp, set_sum, set_mxr, set_rsv, set_stvec, set_sscr, set_sepc, set_scause, set_stval, set_sie, set_sip, set_satp, set_resv] at nb; replace ST := Lib.hid (ST.out.set2 nb m); clear nb m)
        | ((with_reducible refine Step.gate_store (t := 4) rfl ?_); refine Step.store ST.out.two rfl rfl rfl rfl rfl pl_bool rfl rfl ?_; intro w3 nb m; simp [go_sem, set_x0, set_pc, set_user, set_on, set_spie, set_spp, set_sum, set_mxr, set_rsv, set_stvec, set_sscr, set_sepc, set_scause, set_stval, set_sie, set_sip, set_satp, set_resv] at nb; replace ST := Lib.hid (ST.out.set2 nb m); clear nb m)
        | ((with_reducible refine Step.gate_load (t := 22) rfl ?_); refine Step.load ST.out.two rfl rfl rfl pl_u64 (hv_ok _ (by decide)) ?_; simp only [hv_x0, hv_pc, hv_user, hv_on, hv_spie, hv_spp, hv_sum, hv_mxr, hv_rsv, hv_stvec, hv_sscr, hv_sepc, hv_scause, hv_stval, hv_sie, hv_sip, hv_satp, hv_resv])
        | ((with_reducible refine Step.gate_load (t := 4) rfl ?_); refine Step.load ST.out.two rfl rfl rfl pl_bool (hv_ok _ (by decide)) ?_; simp only [hv_x0, hv_pc, hv_user, hv_on, hv_spie, hv_spp, hv_sum, hv_mxr, hv_rsv, hv_stvec, hv_sscr, hv_sepc, hv_scause, hv_stval, hv_sie, hv_sip, hv_satp, hv_resv])
        | ((with_reducible refine Step.gate_store (t := 25) rfl ?_); refine Step.storeAll ST.out.two rfl rfl rfl rfl rfl (size_hart _) rfl (hc_all _) ?_; intro w3 nb m; replace ST := Lib.hid (ST.out.set2 nb m); clear nb m)
        | ((with_reducible refine Step.gate_load (t := 25) rfl ?_); refine Step.loadAll ST.out.two rfl rfl rfl Try.underlying25 rfl (size_hart _) ?_)
        | ((with_reducible refine Step.gate_load (t := 22) rfl ?_); refine Step.loadG ST.out.one rfl rfl rfl pl_u64 (hv_ok _ (by decide)) ?_; simp only [hv_x0, hv_pc, hv_user, hv_on, hv_spie, hv_spp, hv_sum, hv_mxr, hv_rsv, hv_stvec, hv_sscr, hv_sepc, hv_scause, hv_stval, hv_sie, hv_sip, hv_satp, hv_resv])
        | ((with_reducible refine Step.gate_load (t := 4) rfl ?_); refine Step.loadG ST.out.one rfl rfl rfl pl_bool (hv_ok _ (by decide)) ?_; simp only [hv_x0, hv_pc, hv_user, hv_on, hv_spie, hv_spp, hv_sum, hv_mxr, hv_rsv, hv_stvec, hv_sscr, hv_sepc, hv_scause, hv_stval, hv_sie, hv_sip, hv_satp, hv_resv])
        | ((with_reducible refine Step.gate_load (t := 22) rfl ?_); refine Step.loadG ST.out.two rfl rfl rfl pl_u64 (hv_ok _ (by decide)) ?_; simp only [hv_x0, hv_pc, hv_user, hv_on, hv_spie, hv_spp, hv_sum, hv_mxr, hv_rsv, hv_stvec, hv_sscr, hv_sepc, hv_scause, hv_stval, hv_sie, hv_sip, hv_satp, hv_resv])
        | ((with_reducible refine Step.gate_load (t := 4) rfl ?_); refine Step.loadG ST.out.two rfl rfl rfl pl_bool (hv_ok _ (by decide)) ?_; simp only [hv_x0, hv_pc, hv_user, hv_on, hv_spie, hv_spp, hv_sum, hv_mxr, hv_rsv, hv_stvec, hv_sscr, hv_sepc, hv_scause, hv_stval, hv_sie, hv_sip, hv_satp, hv_resv]))
      all_goals ((try simp only [Act.put, List.setIfInBounds_toArray, List.set_cons_zero, List.set_cons_succ]); refine bodyPost_ret (results_row rfl _ _ g2 _ _ _ rfl ST.out.two Try.underlying25 rfl (size_hart _)) rfl ⟨rfl, ST.out.below⟩)
set_option maxHeartbeats 4000000 in
theorem rtrap_any (h : Hrt) (hf : Fit h) (c v : Int) (hcc : U64 c) (hv : U64 v) (w : World) : Calls Try.prog 22 #[.agg (hc h), .int .u64 c, .int .u64 v] w fun e w' => e = .returned (.agg (hc (trg (ord h) c v))) ∧ Below w.heap.size w w' := by
  have T0 := Lib.hid (rOrder_any h hf)
  have T1 := Lib.hid (rOrder_any (trg (ord h) c v) (trg_fit (ord_fit hf) hcc hv))
  rw [ord_trg] at T1
  have e1 := u_an3 (ord_stvec hf)
  have e2 := u_one (ord_stvec hf)
  have p := (ord_stvec hf).out
  have q : IntKind.u64.wrap ((ord h).stvec / 4 * 4) = (ord h).stvec / 4 * 4 := IntWalk.u64_in _ (by omega)
  have hlo := fun hl => int_lo hcc hl
  have hhi := fun hl => int_hi hcc hl
  have pc := hcc.out
  clear hf hv hcc
  generalize ord h = h2 at *
  unfold trg at *
  by_cases hl : c < 9223372036854775808
  · have e3 := hlo hl
    have e4 : (c ≥ 9223372036854775808) = False := eq_false (by omega)
    simp only [if_neg (show ¬ (9223372036854775808 ≤ c ∧ h2.stvec % 2 = 1) by omega)] at *
    clear hlo hhi
    go_enter Try.func22, Try.ntmps22
    go_wp2_with (first
      | (go_at_call 18; (with_reducible refine (T0.out _).mono ?_); rintro e w' ⟨rfl, hb⟩; replace ST := Lib.hid (ST.out.call hb); clear hb)
      | (go_at_call 18; (with_reducible refine (T1.out _).mono ?_); rintro e w' ⟨rfl, hb⟩; replace ST := Lib.hid (ST.out.call hb); clear hb)
      | ((with_reducible refine Step.gate_box (t := 25) rfl ?_); refine Step.fresh (cs := hc h) (T := 25) rfl ?hr ?_; (case hr => first | (go_simp; done) | (go_simp; rfl)); intro g1 w1 b hg hb; have ST := Lib.hid (S1.made b hg hb); clear b hg hb)
      | ((with_reducible refine Step.gate_alloc (t := 25) rfl ?_); refine Step.freshAlloc rfl rfl (alloc_agg zero_hart) ?_; intro g2 w2 b hg hb; replace ST := Lib.hid (ST.out.more b hg hb); clear b hg hb)
      | ((with_reducible refine Step.gate_store (t := 22) rfl ?_); refine Step.store ST.out.one rfl rfl rfl rfl rfl pl_u64 rfl rfl ?_; intro w3 nb m; simp [go_sem, set_x0, set_pc, set_user, set_on, set_spie, set_spp, set_sum, set_mxr, set_rsv, set_stvec, set_sscr, set_sepc, set_scause, set_stval, set_sie, set_sip, set_satp, set_resv] at nb; replace ST := Lib.hid (ST.out.set1 nb m); clear nb m)
      | ((with_reducible refine Step.gate_store (t := 4) rfl ?_); refine Step.store ST.out.one rfl rfl rfl rfl rfl pl_bool rfl rfl ?_; intro w3 nb m; simp [go_sem, set_x0, set_pc, set_user, set_on, set_spie, set_spp, set_sum, set_mxr, set_rsv, set_stvec, set_sscr, set_sepc, set_scause, set_stval, set_sie, set_sip, set_satp, set_resv] at nb; replace ST := Lib.hid (ST.out.set1 nb m); clear nb m)
      | ((with_reducible refine Step.gate_load (t := 22) rfl ?_); refine Step.load ST.out.one rfl rfl rfl pl_u64 (hv_ok _ (by decide)) ?_; simp only [hv_x0, hv_pc, hv_user, hv_on, hv_spie, hv_spp, hv_sum, hv_mxr, hv_rsv, hv_stvec, hv_sscr, hv_sepc, hv_scause, hv_stval, hv_sie, hv_sip, hv_satp, hv_resv])
      | ((with_reducible refine Step.gate_load (t := 4) rfl ?_); refine Step.load ST.out.one rfl rfl rfl pl_bool (hv_ok _ (by decide)) ?_; simp only [hv_x0, hv_pc, hv_user, hv_on, hv_spie, hv_spp, hv_sum, hv_mxr, hv_rsv, hv_stvec, hv_sscr, hv_sepc, hv_scause, hv_stval, hv_sie, hv_sip, hv_satp, hv_resv])
      | ((with_reducible refine Step.gate_store (t := 25) rfl ?_); refine Step.storeAll ST.out.one rfl rfl rfl rfl rfl (size_hart _) rfl (hc_all _) ?_; intro w3 nb m; replace ST := Lib.hid (ST.out.set1 nb m); clear nb m)
      | ((with_reducible refine Step.gate_load (t := 25) rfl ?_); refine Step.loadAll ST.out.one rfl rfl rfl Try.underlying25 rfl (size_hart _) ?_)
      | ((with_reducible refine Step.gate_store (t := 22) rfl ?_); refine Step.store ST.out.two rfl rfl rfl rfl rfl pl_u64 rfl rfl ?_; intro w3 nb m; simp [go_sem, set_x0, set_pc, set_user, set_on, set_spie, set_spp, set_sum, set_mxr, set_rsv, set_stvec, set_sscr, set_sepc, set_scause, set_stval, set_sie, set_sip, set_satp, set_resv] at nb; replace ST := Lib.hid (ST.out.set2 nb m); clear nb m)
      | ((with_reducible refine Step.gate_store (t := 4) rfl ?_); refine Step.store ST.out.two rfl rfl rfl rfl rfl pl_bool rfl rfl ?_; intro w3 nb m; simp [go_sem, set_x0, set_pc, set_user, set_on, set_spie, set_spp, set_sum, set_mxr, set_rsv, set_stvec, set_sscr, set_sepc, set_scause, set_stval, set_sie, set_sip, set_satp, set_resv] at nb; replace ST := Lib.hid (ST.out.set2 nb m); clear nb m)
      | ((with_reducible refine Step.gate_load (t := 22) rfl ?_); refine Step.load ST.out.two rfl rfl rfl pl_u64 (hv_ok _ (by decide)) ?_; simp only [hv_x0, hv_pc, hv_user, hv_on, hv_spie, hv_spp, hv_sum, hv_mxr, hv_rsv, hv_stvec, hv_sscr, hv_sepc, hv_scause, hv_stval, hv_sie, hv_sip, hv_satp, hv_resv])
      | ((with_reducible refine Step.gate_load (t := 4) rfl ?_); refine Step.load ST.out.two rfl rfl rfl pl_bool (hv_ok _ (by decide)) ?_; simp only [hv_x0, hv_pc, hv_user, hv_on, hv_spie, hv_spp, hv_sum, hv_mxr, hv_rsv, hv_stvec, hv_sscr, hv_sepc, hv_scause, hv_stval, hv_sie, hv_sip, hv_satp, hv_resv])
      | ((with_reducible refine Step.gate_store (t := 25) rfl ?_); refine Step.storeAll ST.out.two rfl rfl rfl rfl rfl (size_hart _) rfl (hc_all _) ?_; intro w3 nb m; replace ST := Lib.hid (ST.out.set2 nb m); clear nb m)
      | ((with_reducible refine Step.gate_load (t := 25) rfl ?_); refine Step.loadAll ST.out.two rfl rfl rfl Try.underlying25 rfl (size_hart _) ?_)
      | ((with_reducible refine Step.gate_load (t := 22) rfl ?_); refine Step.loadG ST.out.one rfl rfl rfl pl_u64 (hv_ok _ (by decide)) ?_; simp only [hv_x0, hv_pc, hv_user, hv_on, hv_spie, hv_spp, hv_sum, hv_mxr, hv_rsv, hv_stvec, hv_sscr, hv_sepc, hv_scause, hv_stval, hv_sie, hv_sip, hv_satp, hv_resv])
      | ((with_reducible refine Step.gate_load (t := 4) rfl ?_); refine Step.loadG ST.out.one rfl rfl rfl pl_bool (hv_ok _ (by decide)) ?_; simp only [hv_x0, hv_pc, hv_user, hv_on, hv_spie, hv_spp, hv_sum, hv_mxr, hv_rsv, hv_stvec, hv_sscr, hv_sepc, hv_scause, hv_stval, hv_sie, hv_sip, hv_satp, hv_resv])
      | ((with_reducible refine Step.gate_load (t := 22) rfl ?_); refine Step.loadG ST.out.two rfl rfl rfl pl_u64 (hv_ok _ (by decide)) ?_; simp only [hv_x0, hv_pc, hv_user, hv_on, hv_spie, hv_spp, hv_sum, hv_mxr, hv_rsv, hv_stvec, hv_sscr, hv_sepc, hv_scause, hv_stval, hv_sie, hv_sip, hv_satp, hv_resv])
      | ((with_reducible refine Step.gate_load (t := 4) rfl ?_); refine Step.loadG ST.out.two rfl rfl rfl pl_bool (hv_ok _ (by decide)) ?_; simp only [hv_x0, hv_pc, hv_user, hv_on, hv_spie, hv_spp, hv_sum, hv_mxr, hv_rsv, hv_stvec, hv_sscr, hv_sepc, hv_scause, hv_stval, hv_sie, hv_sip, hv_satp, hv_resv]))
    all_goals ((try simp only [Act.put, List.setIfInBounds_toArray, List.set_cons_zero, List.set_cons_succ]); refine bodyPost_ret (results_row rfl _ _ g2 _ _ _ rfl ST.out.two Try.underlying25 rfl (size_hart _)) rfl ⟨rfl, ST.out.below⟩)
  · obtain ⟨e3, e4⟩ := hhi (by omega)
    have e5 : IntKind.u64.wrap (c - 9223372036854775808) = c - 9223372036854775808 := IntWalk.u64_in _ (by omega)
    have e6 : (c ≥ 9223372036854775808) = True := eq_true (by omega)
    clear hlo hhi
    by_cases ho : h2.stvec % 2 = 1
    · simp only [if_pos (show (9223372036854775808 ≤ c ∧ h2.stvec % 2 = 1) from ⟨by omega, ho⟩)] at *
      rw [ho] at e2
      go_enter Try.func22, Try.ntmps22
      go_wp2_with (first
        | (go_at_call 18; (with_reducible refine (T0.out _).mono ?_); rintro e w' ⟨rfl, hb⟩; replace ST := Lib.hid (ST.out.call hb); clear hb)
        | (go_at_call 18; (with_reducible refine (T1.out _).mono ?_); rintro e w' ⟨rfl, hb⟩; replace ST := Lib.hid (ST.out.call hb); clear hb)
        | ((with_reducible refine Step.gate_box (t := 25) rfl ?_); refine Step.fresh (cs := hc h) (T := 25) rfl ?hr ?_; (case hr => first | (go_simp; done) | (go_simp; rfl)); intro g1 w1 b hg hb; have ST := Lib.hid (S1.made b hg hb); clear b hg hb)
        | ((with_reducible refine Step.gate_alloc (t := 25) rfl ?_); refine Step.freshAlloc rfl rfl (alloc_agg zero_hart) ?_; intro g2 w2 b hg hb; replace ST := Lib.hid (ST.out.more b hg hb); clear b hg hb)
        | ((with_reducible refine Step.gate_store (t := 22) rfl ?_); refine Step.store ST.out.one rfl rfl rfl rfl rfl pl_u64 rfl rfl ?_; intro w3 nb m; simp [go_sem, set_x0, set_pc, set_user, set_on, set_spie, set_spp, set_sum, set_mxr, set_rsv, set_stvec, set_sscr, set_sepc, set_scause, set_stval, set_sie, set_sip, set_satp, set_resv] at nb; replace ST := Lib.hid (ST.out.set1 nb m); clear nb m)
        | ((with_reducible refine Step.gate_store (t := 4) rfl ?_); refine Step.store ST.out.one rfl rfl rfl rfl rfl pl_bool rfl rfl ?_; intro w3 nb m; simp [go_sem, set_x0, set_pc, set_user, set_on, set_spie, set_spp, set_sum, set_mxr, set_rsv, set_stvec, set_sscr, set_sepc, set_scause, set_stval, set_sie, set_sip, set_satp, set_resv] at nb; replace ST := Lib.hid (ST.out.set1 nb m); clear nb m)
        | ((with_reducible refine Step.gate_load (t := 22) rfl ?_); refine Step.load ST.out.one rfl rfl rfl pl_u64 (hv_ok _ (by decide)) ?_; simp only [hv_x0, hv_pc, hv_user, hv_on, hv_spie, hv_spp, hv_sum, hv_mxr, hv_rsv, hv_stvec, hv_sscr, hv_sepc, hv_scause, hv_stval, hv_sie, hv_sip, hv_satp, hv_resv])
        | ((with_reducible refine Step.gate_load (t := 4) rfl ?_); refine Step.load ST.out.one rfl rfl rfl pl_bool (hv_ok _ (by decide)) ?_; simp only [hv_x0, hv_pc, hv_user, hv_on, hv_spie, hv_spp, hv_sum, hv_mxr, hv_rsv, hv_stvec, hv_sscr, hv_sepc, hv_scause, hv_stval, hv_sie, hv_sip, hv_satp, hv_resv])
        | ((with_reducible refine Step.gate_store (t := 25) rfl ?_); refine Step.storeAll ST.out.one rfl rfl rfl rfl rfl (size_hart _) rfl (hc_all _) ?_; intro w3 nb m; replace ST := Lib.hid (ST.out.set1 nb m); clear nb m)
        | ((with_reducible refine Step.gate_load (t := 25) rfl ?_); refine Step.loadAll ST.out.one rfl rfl rfl Try.underlying25 rfl (size_hart _) ?_)
        | ((with_reducible refine Step.gate_store (t := 22) rfl ?_); refine Step.store ST.out.two rfl rfl rfl rfl rfl pl_u64 rfl rfl ?_; intro w3 nb m; simp [go_sem, set_x0, set_pc, set_user, set_on, set_spie, set_spp, set_sum, set_mxr, set_rsv, set_stvec, set_sscr, set_sepc, set_scause, set_stval, set_sie, set_sip, set_satp, set_resv] at nb; replace ST := Lib.hid (ST.out.set2 nb m); clear nb m)
        | ((with_reducible refine Step.gate_store (t := 4) rfl ?_); refine Step.store ST.out.two rfl rfl rfl rfl rfl pl_bool rfl rfl ?_; intro w3 nb m; simp [go_sem, set_x0, set_pc, set_user, set_on, set_spie, set_spp, set_sum, set_mxr, set_rsv, set_stvec, set_sscr, set_sepc, set_scause, set_stval, set_sie, set_sip, set_satp, set_resv] at nb; replace ST := Lib.hid (ST.out.set2 nb m); clear nb m)
        | ((with_reducible refine Step.gate_load (t := 22) rfl ?_); refine Step.load ST.out.two rfl rfl rfl pl_u64 (hv_ok _ (by decide)) ?_; simp only [hv_x0, hv_pc, hv_user, hv_on, hv_spie, hv_spp, hv_sum, hv_mxr, hv_rsv, hv_stvec, hv_sscr, hv_sepc, hv_scause, hv_stval, hv_sie, hv_sip, hv_satp, hv_resv])
        | ((with_reducible refine Step.gate_load (t := 4) rfl ?_); refine Step.load ST.out.two rfl rfl rfl pl_bool (hv_ok _ (by decide)) ?_; simp only [hv_x0, hv_pc, hv_user, hv_on, hv_spie, hv_spp, hv_sum, hv_mxr, hv_rsv, hv_stvec, hv_sscr, hv_sepc, hv_scause, hv_stval, hv_sie, hv_sip, hv_satp, hv_resv])
        | ((with_reducible refine Step.gate_store (t := 25) rfl ?_); refine Step.storeAll ST.out.two rfl rfl rfl rfl rfl (size_hart _) rfl (hc_all _) ?_; intro w3 nb m; replace ST := Lib.hid (ST.out.set2 nb m); clear nb m)
        | ((with_reducible refine Step.gate_load (t := 25) rfl ?_); refine Step.loadAll ST.out.two rfl rfl rfl Try.underlying25 rfl (size_hart _) ?_)
        | ((with_reducible refine Step.gate_load (t := 22) rfl ?_); refine Step.loadG ST.out.one rfl rfl rfl pl_u64 (hv_ok _ (by decide)) ?_; simp only [hv_x0, hv_pc, hv_user, hv_on, hv_spie, hv_spp, hv_sum, hv_mxr, hv_rsv, hv_stvec, hv_sscr, hv_sepc, hv_scause, hv_stval, hv_sie, hv_sip, hv_satp, hv_resv])
        | ((with_reducible refine Step.gate_load (t := 4) rfl ?_); refine Step.loadG ST.out.one rfl rfl rfl pl_bool (hv_ok _ (by decide)) ?_; simp only [hv_x0, hv_pc, hv_user, hv_on, hv_spie, hv_spp, hv_sum, hv_mxr, hv_rsv, hv_stvec, hv_sscr, hv_sepc, hv_scause, hv_stval, hv_sie, hv_sip, hv_satp, hv_resv])
        | ((with_reducible refine Step.gate_load (t := 22) rfl ?_); refine Step.loadG ST.out.two rfl rfl rfl pl_u64 (hv_ok _ (by decide)) ?_; simp only [hv_x0, hv_pc, hv_user, hv_on, hv_spie, hv_spp, hv_sum, hv_mxr, hv_rsv, hv_stvec, hv_sscr, hv_sepc, hv_scause, hv_stval, hv_sie, hv_sip, hv_satp, hv_resv])
        | ((with_reducible refine Step.gate_load (t := 4) rfl ?_); refine Step.loadG ST.out.two rfl rfl rfl pl_bool (hv_ok _ (by decide)) ?_; simp only [hv_x0, hv_pc, hv_user, hv_on, hv_spie, hv_spp, hv_sum, hv_mxr, hv_rsv, hv_stvec, hv_sscr, hv_sepc, hv_scause, hv_stval, hv_sie, hv_sip, hv_satp, hv_resv]))
      all_goals ((try simp only [Act.put, List.setIfInBounds_toArray, List.set_cons_zero, List.set_cons_succ]); refine bodyPost_ret (results_row rfl _ _ g2 _ _ _ rfl ST.out.two Try.underlying25 rfl (size_hart _)) rfl ⟨rfl, ST.out.below⟩)
    · simp only [if_neg (show ¬ (9223372036854775808 ≤ c ∧ h2.stvec % 2 = 1) from fun h => ho h.2)] at *
      have ho2 : (bits .and .u64 h2.stvec 1 == 1) = false := by rw [e2]; exact beq_eq_false_iff_ne.2 ho
      have ho3 : (h2.stvec % 2 == 1) = false := beq_eq_false_iff_ne.2 ho
      clear e2
      go_enter Try.func22, Try.ntmps22
      go_wp2_with (first
        | (go_at_call 18; (with_reducible refine (T0.out _).mono ?_); rintro e w' ⟨rfl, hb⟩; replace ST := Lib.hid (ST.out.call hb); clear hb)
        | (go_at_call 18; (with_reducible refine (T1.out _).mono ?_); rintro e w' ⟨rfl, hb⟩; replace ST := Lib.hid (ST.out.call hb); clear hb)
        | ((with_reducible refine Step.gate_box (t := 25) rfl ?_); refine Step.fresh (cs := hc h) (T := 25) rfl ?hr ?_; (case hr => first | (go_simp; done) | (go_simp; rfl)); intro g1 w1 b hg hb; have ST := Lib.hid (S1.made b hg hb); clear b hg hb)
        | ((with_reducible refine Step.gate_alloc (t := 25) rfl ?_); refine Step.freshAlloc rfl rfl (alloc_agg zero_hart) ?_; intro g2 w2 b hg hb; replace ST := Lib.hid (ST.out.more b hg hb); clear b hg hb)
        | ((with_reducible refine Step.gate_store (t := 22) rfl ?_); refine Step.store ST.out.one rfl rfl rfl rfl rfl pl_u64 rfl rfl ?_; intro w3 nb m; simp [go_sem, set_x0, set_pc, set_user, set_on, set_spie, set_spp, set_sum, set_mxr, set_rsv, set_stvec, set_sscr, set_sepc, set_scause, set_stval, set_sie, set_sip, set_satp, set_resv] at nb; replace ST := Lib.hid (ST.out.set1 nb m); clear nb m)
        | ((with_reducible refine Step.gate_store (t := 4) rfl ?_); refine Step.store ST.out.one rfl rfl rfl rfl rfl pl_bool rfl rfl ?_; intro w3 nb m; simp [go_sem, set_x0, set_pc, set_user, set_on, set_spie, set_spp, set_sum, set_mxr, set_rsv, set_stvec, set_sscr, set_sepc, set_scause, set_stval, set_sie, set_sip, set_satp, set_resv] at nb; replace ST := Lib.hid (ST.out.set1 nb m); clear nb m)
        | ((with_reducible refine Step.gate_load (t := 22) rfl ?_); refine Step.load ST.out.one rfl rfl rfl pl_u64 (hv_ok _ (by decide)) ?_; simp only [hv_x0, hv_pc, hv_user, hv_on, hv_spie, hv_spp, hv_sum, hv_mxr, hv_rsv, hv_stvec, hv_sscr, hv_sepc, hv_scause, hv_stval, hv_sie, hv_sip, hv_satp, hv_resv])
        | ((with_reducible refine Step.gate_load (t := 4) rfl ?_); refine Step.load ST.out.one rfl rfl rfl pl_bool (hv_ok _ (by decide)) ?_; simp only [hv_x0, hv_pc, hv_user, hv_on, hv_spie, hv_spp, hv_sum, hv_mxr, hv_rsv, hv_stvec, hv_sscr, hv_sepc, hv_scause, hv_stval, hv_sie, hv_sip, hv_satp, hv_resv])
        | ((with_reducible refine Step.gate_store (t := 25) rfl ?_); refine Step.storeAll ST.out.one rfl rfl rfl rfl rfl (size_hart _) rfl (hc_all _) ?_; intro w3 nb m; replace ST := Lib.hid (ST.out.set1 nb m); clear nb m)
        | ((with_reducible refine Step.gate_load (t := 25) rfl ?_); refine Step.loadAll ST.out.one rfl rfl rfl Try.underlying25 rfl (size_hart _) ?_)
        | ((with_reducible refine Step.gate_store (t := 22) rfl ?_); refine Step.store ST.out.two rfl rfl rfl rfl rfl pl_u64 rfl rfl ?_; intro w3 nb m; simp [go_sem, set_x0, set_pc, set_user, set_on, set_spie, set_spp, set_sum, set_mxr, set_rsv, set_stvec, set_sscr, set_sepc, set_scause, set_stval, set_sie, set_sip, set_satp, set_resv] at nb; replace ST := Lib.hid (ST.out.set2 nb m); clear nb m)
        | ((with_reducible refine Step.gate_store (t := 4) rfl ?_); refine Step.store ST.out.two rfl rfl rfl rfl rfl pl_bool rfl rfl ?_; intro w3 nb m; simp [go_sem, set_x0, set_pc, set_user, set_on, set_spie, set_spp, set_sum, set_mxr, set_rsv, set_stvec, set_sscr, set_sepc, set_scause, set_stval, set_sie, set_sip, set_satp, set_resv] at nb; replace ST := Lib.hid (ST.out.set2 nb m); clear nb m)
        | ((with_reducible refine Step.gate_load (t := 22) rfl ?_); refine Step.load ST.out.two rfl rfl rfl pl_u64 (hv_ok _ (by decide)) ?_; simp only [hv_x0, hv_pc, hv_user, hv_on, hv_spie, hv_spp, hv_sum, hv_mxr, hv_rsv, hv_stvec, hv_sscr, hv_sepc, hv_scause, hv_stval, hv_sie, hv_sip, hv_satp, hv_resv])
        | ((with_reducible refine Step.gate_load (t := 4) rfl ?_); refine Step.load ST.out.two rfl rfl rfl pl_bool (hv_ok _ (by decide)) ?_; simp only [hv_x0, hv_pc, hv_user, hv_on, hv_spie, hv_spp, hv_sum, hv_mxr, hv_rsv, hv_stvec, hv_sscr, hv_sepc, hv_scause, hv_stval, hv_sie, hv_sip, hv_satp, hv_resv])
        | ((with_reducible refine Step.gate_store (t := 25) rfl ?_); refine Step.storeAll ST.out.two rfl rfl rfl rfl rfl (size_hart _) rfl (hc_all _) ?_; intro w3 nb m; replace ST := Lib.hid (ST.out.set2 nb m); clear nb m)
        | ((with_reducible refine Step.gate_load (t := 25) rfl ?_); refine Step.loadAll ST.out.two rfl rfl rfl Try.underlying25 rfl (size_hart _) ?_)
        | ((with_reducible refine Step.gate_load (t := 22) rfl ?_); refine Step.loadG ST.out.one rfl rfl rfl pl_u64 (hv_ok _ (by decide)) ?_; simp only [hv_x0, hv_pc, hv_user, hv_on, hv_spie, hv_spp, hv_sum, hv_mxr, hv_rsv, hv_stvec, hv_sscr, hv_sepc, hv_scause, hv_stval, hv_sie, hv_sip, hv_satp, hv_resv])
        | ((with_reducible refine Step.gate_load (t := 4) rfl ?_); refine Step.loadG ST.out.one rfl rfl rfl pl_bool (hv_ok _ (by decide)) ?_; simp only [hv_x0, hv_pc, hv_user, hv_on, hv_spie, hv_spp, hv_sum, hv_mxr, hv_rsv, hv_stvec, hv_sscr, hv_sepc, hv_scause, hv_stval, hv_sie, hv_sip, hv_satp, hv_resv])
        | ((with_reducible refine Step.gate_load (t := 22) rfl ?_); refine Step.loadG ST.out.two rfl rfl rfl pl_u64 (hv_ok _ (by decide)) ?_; simp only [hv_x0, hv_pc, hv_user, hv_on, hv_spie, hv_spp, hv_sum, hv_mxr, hv_rsv, hv_stvec, hv_sscr, hv_sepc, hv_scause, hv_stval, hv_sie, hv_sip, hv_satp, hv_resv])
        | ((with_reducible refine Step.gate_load (t := 4) rfl ?_); refine Step.loadG ST.out.two rfl rfl rfl pl_bool (hv_ok _ (by decide)) ?_; simp only [hv_x0, hv_pc, hv_user, hv_on, hv_spie, hv_spp, hv_sum, hv_mxr, hv_rsv, hv_stvec, hv_sscr, hv_sepc, hv_scause, hv_stval, hv_sie, hv_sip, hv_satp, hv_resv]))
      all_goals ((try simp only [Act.put, List.setIfInBounds_toArray, List.set_cons_zero, List.set_cons_succ]); refine bodyPost_ret (results_row rfl _ _ g2 _ _ _ rfl ST.out.two Try.underlying25 rfl (size_hart _)) rfl ⟨rfl, ST.out.below⟩)
end Go.Proofs.Ytecpkipgkaaefaa.Hart
end
