/- Parts of the walks and laws for the claim: Mio; no conditions beyond the theorems' own. -/
import Derived.Test.YtecpkipgkaaefaaP7
import Derived.Test.YtecpkipgkaaefaaP8
section
namespace Go.Proofs.Ytecpkipgkaaefaa.Hart
open Go Go.RowKit Go.Proofs.Ytecpkipgkaaefaa.Step Go.Proofs.Ytecpkipgkaaefaa.Enc Go.Proofs.Ytecpkipgkaaefaa.Kn
set_option linter.unusedVariables false
set_option linter.unusedSimpArgs false
set_option maxRecDepth 100000
/-- An access. -/
structure Acc where
  st : Bool
  sg : Bool
  sz : Int
  rg : Int
  ln : Int
  va : Int
  vl : Int
def Acc.cells (a : Acc) : Array Value := #[.bool a.st, .bool a.sg, .int .i64 a.sz, .int .i64 a.rg, .int .i64 a.ln, .int .u64 a.va, .int .u64 a.vl]
def Acc.zero : Acc := ⟨false, false, 0, 0, 0, 0, 0⟩
/-- An event. -/
structure Evt where
  kd : Int
  ak : Int
  va : Int
  gpa : Int
  wk : Bool
  wr : Bool
def Evt.cells (e : Evt) : Array Value := #[.int .i64 e.kd, .int .i64 e.ak, .int .u64 e.va, .int .u64 e.gpa, .bool e.wk, .bool e.wr]
theorem zero_acc : (Try.prog.info? 30).bind (·.zero) = some (.agg #[.bool false, .bool false, .int .i64 0, .int .i64 0, .int .i64 0, .int .u64 0, .int .u64 0]) := by kernel_rfl
theorem size_acc : (Try.prog.info? 30).map (·.size) = some 7 := by kernel_rfl
theorem size_evt : (Try.prog.info? 28).map (·.size) = some 6 := by kernel_rfl
theorem morder_any (h : Hrt) (hf : Fit h) (w : World) : Calls Try.prog 14 #[.agg (hc h)] w fun e w' => e = .returned (.agg (hc (ord h))) ∧ Below w.heap.size w w' := by
  have T0 := Lib.hid (write_none h hf 0)
  clear hf
  generalize ord h = h2 at *
  go_enter Try.func14, Try.ntmps14
  have ST := Lib.hid (Kn.nil (S := Step.Nil) (W := w))
  go_wp2_with (first
    | (go_at_call 23; (with_reducible refine (T0.out _).mono ?_); rintro e w' ⟨rfl, hb⟩; replace ST := Lib.hid (ST.out.call hb); clear hb)
    | ((with_reducible refine Step.gate_box (t := 25) rfl ?_); refine Step.fresh (cs := hc h) (T := 25) rfl ?hr ?_; (case hr => first | (go_simp; done) | (go_simp; rfl)); intro g1 w1 b hg hb; replace ST := Lib.hid (ST.out.made b hg hb); clear b hb; clear hg)
    | ((with_reducible refine Step.gate_alloc (t := 25) rfl ?_); refine Step.freshAlloc rfl rfl (alloc_agg zero_hart) ?_; intro g2 w2 b hg hb; replace ST := Lib.hid (ST.out.made b hg hb); clear b hb; clear hg)
    | ((with_reducible refine Step.gate_store (t := 25) rfl ?_); refine Step.storeAll ST.out.at0 rfl rfl rfl rfl rfl (size_hart _) rfl (hc_all _) ?_; intro w3 nb m; replace ST := Lib.hid (ST.out.set0 nb m); clear nb m)
    | ((with_reducible refine Step.gate_load (t := 25) rfl ?_); refine Step.loadAll ST.out.at0 rfl rfl rfl Try.underlying25 rfl (size_hart _) ?_)
    | ((with_reducible refine Step.gate_store (t := 25) rfl ?_); refine Step.storeAll ST.out.at1 rfl rfl rfl rfl rfl (size_hart _) rfl (hc_all _) ?_; intro w3 nb m; replace ST := Lib.hid (ST.out.set1 nb m); clear nb m)
    | ((with_reducible refine Step.gate_load (t := 25) rfl ?_); refine Step.loadAll ST.out.at1 rfl rfl rfl Try.underlying25 rfl (size_hart _) ?_))
  all_goals (refine bodyPost_ret (results_row rfl _ _ _ _ _ _ rfl ST.out.at0 Try.underlying25 rfl (size_hart _)) rfl ⟨rfl, ST.out.below⟩)
set_option maxHeartbeats 4000000 in
theorem rextend_any {v : Int} (hv : U64 v) (sz : Int) (sg : Bool) (w : World) : Calls Try.prog 20 #[.int .u64 v, .int .i64 sz, .bool sg] w fun e w' => e = .returned (.int .u64 (extV v sz sg)) ∧ Below w.heap.size w w' := by
  have hv := hv.out
  by_cases h1 : sz = 1
  · subst h1
    have e0 : extV v 1 false = v % 256 := by simp [extV]
    have e4 : Int.tmod v 256 = v % 256 := Int.tmod_eq_emod_of_nonneg hv.1
    cases sg with
    | false =>
      have HB := Lib.hid (Below.refl _ _ : Below w.heap.size w w)
      rw [e0]
      go_enter Try.func20, Try.ntmps20
      go_wp2
      go_ret
      exact ⟨rfl, HB.out⟩
    | true =>
      by_cases hh : v % 256 ≥ 128
      · have e1 : extV v 1 true = v % 256 + 18446744073709551360 := by simp [extV, hh]
        have e2 : IntKind.u64.wrap (v % 256 - 256) = v % 256 + 18446744073709551360 := by rw [IntKind.wrap_u64]; omega
        have HB := Lib.hid (Below.refl _ _ : Below w.heap.size w w)
        rw [e1]
        go_enter Try.func20, Try.ntmps20
        go_wp2
        go_ret
        exact ⟨rfl, HB.out⟩
      · have e1 : extV v 1 true = v % 256 := by simp [extV, show ¬ 128 ≤ v % 256 by omega]
        have e2 : (v % 256 ≥ 128) = False := eq_false hh
        have HB := Lib.hid (Below.refl _ _ : Below w.heap.size w w)
        rw [e1]
        go_enter Try.func20, Try.ntmps20
        go_wp2
        go_ret
        exact ⟨rfl, HB.out⟩
  by_cases h2 : sz = 2
  · subst h2
    have e0 : extV v 2 false = v % 65536 := by simp [extV]
    have e4 : Int.tmod v 65536 = v % 65536 := Int.tmod_eq_emod_of_nonneg hv.1
    cases sg with
    | false =>
      have HB := Lib.hid (Below.refl _ _ : Below w.heap.size w w)
      rw [e0]
      go_enter Try.func20, Try.ntmps20
      go_wp2
      go_ret
      exact ⟨rfl, HB.out⟩
    | true =>
      by_cases hh : v % 65536 ≥ 32768
      · have e1 : extV v 2 true = v % 65536 + 18446744073709486080 := by simp [extV, hh]
        have e2 : IntKind.u64.wrap (v % 65536 - 65536) = v % 65536 + 18446744073709486080 := by rw [IntKind.wrap_u64]; omega
        have HB := Lib.hid (Below.refl _ _ : Below w.heap.size w w)
        rw [e1]
        go_enter Try.func20, Try.ntmps20
        go_wp2
        go_ret
        exact ⟨rfl, HB.out⟩
      · have e1 : extV v 2 true = v % 65536 := by simp [extV, show ¬ 32768 ≤ v % 65536 by omega]
        have e2 : (v % 65536 ≥ 32768) = False := eq_false hh
        have HB := Lib.hid (Below.refl _ _ : Below w.heap.size w w)
        rw [e1]
        go_enter Try.func20, Try.ntmps20
        go_wp2
        go_ret
        exact ⟨rfl, HB.out⟩
  by_cases h4 : sz = 4
  · subst h4
    have e0 : extV v 4 false = v % 4294967296 := by simp [extV]
    have e4 : Int.tmod v 4294967296 = v % 4294967296 := Int.tmod_eq_emod_of_nonneg hv.1
    cases sg with
    | false =>
      have HB := Lib.hid (Below.refl _ _ : Below w.heap.size w w)
      rw [e0]
      go_enter Try.func20, Try.ntmps20
      go_wp2
      go_ret
      exact ⟨rfl, HB.out⟩
    | true =>
      by_cases hh : v % 4294967296 ≥ 2147483648
      · have e1 : extV v 4 true = v % 4294967296 + 18446744069414584320 := by simp [extV, hh]
        have e2 : IntKind.u64.wrap (v % 4294967296 - 4294967296) = v % 4294967296 + 18446744069414584320 := by rw [IntKind.wrap_u64]; omega
        have HB := Lib.hid (Below.refl _ _ : Below w.heap.size w w)
        rw [e1]
        go_enter Try.func20, Try.ntmps20
        go_wp2
        go_ret
        exact ⟨rfl, HB.out⟩
      · have e1 : extV v 4 true = v % 4294967296 := by simp [extV, show ¬ 2147483648 ≤ v % 4294967296 by omega]
        have e2 : (v % 4294967296 ≥ 2147483648) = False := eq_false hh
        have HB := Lib.hid (Below.refl _ _ : Below w.heap.size w w)
        rw [e1]
        go_enter Try.func20, Try.ntmps20
        go_wp2
        go_ret
        exact ⟨rfl, HB.out⟩
  have e : extV v sz sg = v := by unfold extV; rw [if_neg h1, if_neg h2, if_neg h4]
  rw [e]
  replace h1 : (sz != 1) = true := by simpa using h1
  replace h2 : (sz != 2) = true := by simpa using h2
  replace h4 : (sz != 4) = true := by simpa using h4
  have HB := Lib.hid (Below.refl _ _ : Below w.heap.size w w)
  go_enter Try.func20, Try.ntmps20
  go_wp2
  go_ret
  exact ⟨rfl, HB.out⟩
/-- Is it the access that the event tells of? -/
def mat (a : Acc) (e : Evt) : Bool := (e.kd == 3) && !e.wk && (e.ak == if a.st = true then 3 else 2) && (e.va == a.va)
set_option maxHeartbeats 4000000 in
theorem match_any_true (sg : Bool) (sz rg ln va vl kd ak eva gpa : Int) (wk wr : Bool) (w : World) : Calls Try.prog 7 #[.agg #[.bool true, .bool sg, .int .i64 sz, .int .i64 rg, .int .i64 ln, .int .u64 va, .int .u64 vl], .agg #[.int .i64 kd, .int .i64 ak, .int .u64 eva, .int .u64 gpa, .bool wk, .bool wr]] w fun e w' => e = .returned (.bool ((kd == 3) && !wk && (ak == 3) && (eva == va))) ∧ Below w.heap.size w w' := by
  cases h1 : (kd == 3) with
  | false =>
    simp only [Bool.false_and]
    go_enter Try.func7, Try.ntmps7
    have ST := Lib.hid (Kn.nil (S := Step.Nil) (W := w))
    go_wp2_with (first
      | ((with_reducible refine Step.gate_box (t := 30) rfl ?_); refine Step.fresh (cs := #[.bool true, .bool sg, .int .i64 sz, .int .i64 rg, .int .i64 ln, .int .u64 va, .int .u64 vl]) (T := 30) rfl ?hr ?_; (case hr => first | (go_simp; done) | (go_simp; rfl)); intro g1 w1 b hg hb; replace ST := Lib.hid (ST.out.made b hg hb); clear b hb; clear hg)
      | ((with_reducible refine Step.gate_box (t := 28) rfl ?_); refine Step.fresh (cs := #[.int .i64 kd, .int .i64 ak, .int .u64 eva, .int .u64 gpa, .bool wk, .bool wr]) (T := 28) rfl ?hr ?_; (case hr => first | (go_simp; done) | (go_simp; rfl)); intro g2 w1 b hg hb; replace ST := Lib.hid (ST.out.made b hg hb); clear b hb; clear hg)
      | ((with_reducible refine Step.gate_load (t := 22) rfl ?_); refine Step.load ST.out.at0 rfl rfl rfl pl_u64 rfl ?_)
      | ((with_reducible refine Step.gate_load (t := 3) rfl ?_); refine Step.load ST.out.at0 rfl rfl rfl pl_int rfl ?_)
      | ((with_reducible refine Step.gate_load (t := 4) rfl ?_); refine Step.load ST.out.at0 rfl rfl rfl pl_bool rfl ?_)
      | ((with_reducible refine Step.gate_load (t := 22) rfl ?_); refine Step.loadG ST.out.at0 rfl rfl rfl pl_u64 rfl ?_)
      | ((with_reducible refine Step.gate_load (t := 3) rfl ?_); refine Step.loadG ST.out.at0 rfl rfl rfl pl_int rfl ?_)
      | ((with_reducible refine Step.gate_load (t := 4) rfl ?_); refine Step.loadG ST.out.at0 rfl rfl rfl pl_bool rfl ?_)
      | ((with_reducible refine Step.gate_load (t := 22) rfl ?_); refine Step.load ST.out.at1 rfl rfl rfl pl_u64 rfl ?_)
      | ((with_reducible refine Step.gate_load (t := 3) rfl ?_); refine Step.load ST.out.at1 rfl rfl rfl pl_int rfl ?_)
      | ((with_reducible refine Step.gate_load (t := 4) rfl ?_); refine Step.load ST.out.at1 rfl rfl rfl pl_bool rfl ?_)
      | ((with_reducible refine Step.gate_load (t := 22) rfl ?_); refine Step.loadG ST.out.at1 rfl rfl rfl pl_u64 rfl ?_)
      | ((with_reducible refine Step.gate_load (t := 3) rfl ?_); refine Step.loadG ST.out.at1 rfl rfl rfl pl_int rfl ?_)
      | ((with_reducible refine Step.gate_load (t := 4) rfl ?_); refine Step.loadG ST.out.at1 rfl rfl rfl pl_bool rfl ?_))
    all_goals (go_ret; exact ⟨rfl, ST.out.below⟩)
  | true =>
    cases wk with
    | true =>
      simp only [Bool.not_true, Bool.and_false, Bool.false_and]
      go_enter Try.func7, Try.ntmps7
      have ST := Lib.hid (Kn.nil (S := Step.Nil) (W := w))
      go_wp2_with (first
        | ((with_reducible refine Step.gate_box (t := 30) rfl ?_); refine Step.fresh (cs := #[.bool true, .bool sg, .int .i64 sz, .int .i64 rg, .int .i64 ln, .int .u64 va, .int .u64 vl]) (T := 30) rfl ?hr ?_; (case hr => first | (go_simp; done) | (go_simp; rfl)); intro g1 w1 b hg hb; replace ST := Lib.hid (ST.out.made b hg hb); clear b hb; clear hg)
        | ((with_reducible refine Step.gate_box (t := 28) rfl ?_); refine Step.fresh (cs := #[.int .i64 kd, .int .i64 ak, .int .u64 eva, .int .u64 gpa, .bool true, .bool wr]) (T := 28) rfl ?hr ?_; (case hr => first | (go_simp; done) | (go_simp; rfl)); intro g2 w1 b hg hb; replace ST := Lib.hid (ST.out.made b hg hb); clear b hb; clear hg)
        | ((with_reducible refine Step.gate_load (t := 22) rfl ?_); refine Step.load ST.out.at0 rfl rfl rfl pl_u64 rfl ?_)
        | ((with_reducible refine Step.gate_load (t := 3) rfl ?_); refine Step.load ST.out.at0 rfl rfl rfl pl_int rfl ?_)
        | ((with_reducible refine Step.gate_load (t := 4) rfl ?_); refine Step.load ST.out.at0 rfl rfl rfl pl_bool rfl ?_)
        | ((with_reducible refine Step.gate_load (t := 22) rfl ?_); refine Step.loadG ST.out.at0 rfl rfl rfl pl_u64 rfl ?_)
        | ((with_reducible refine Step.gate_load (t := 3) rfl ?_); refine Step.loadG ST.out.at0 rfl rfl rfl pl_int rfl ?_)
        | ((with_reducible refine Step.gate_load (t := 4) rfl ?_); refine Step.loadG ST.out.at0 rfl rfl rfl pl_bool rfl ?_)
        | ((with_reducible refine Step.gate_load (t := 22) rfl ?_); refine Step.load ST.out.at1 rfl rfl rfl pl_u64 rfl ?_)
        | ((with_reducible refine Step.gate_load (t := 3) rfl ?_); refine Step.load ST.out.at1 rfl rfl rfl pl_int rfl ?_)
        | ((with_reducible refine Step.gate_load (t := 4) rfl ?_); refine Step.load ST.out.at1 rfl rfl rfl pl_bool rfl ?_)
        | ((with_reducible refine Step.gate_load (t := 22) rfl ?_); refine Step.loadG ST.out.at1 rfl rfl rfl pl_u64 rfl ?_)
        | ((with_reducible refine Step.gate_load (t := 3) rfl ?_); refine Step.loadG ST.out.at1 rfl rfl rfl pl_int rfl ?_)
        | ((with_reducible refine Step.gate_load (t := 4) rfl ?_); refine Step.loadG ST.out.at1 rfl rfl rfl pl_bool rfl ?_))
      all_goals (go_ret; exact ⟨rfl, ST.out.below⟩)
    | false =>
      cases h2 : (ak == 3) with
      | false =>
        simp only [Bool.and_false, Bool.false_and]
        go_enter Try.func7, Try.ntmps7
        have ST := Lib.hid (Kn.nil (S := Step.Nil) (W := w))
        go_wp2_with (first
          | ((with_reducible refine Step.gate_box (t := 30) rfl ?_); refine Step.fresh (cs := #[.bool true, .bool sg, .int .i64 sz, .int .i64 rg, .int .i64 ln, .int .u64 va, .int .u64 vl]) (T := 30) rfl ?hr ?_; (case hr => first | (go_simp; done) | (go_simp; rfl)); intro g1 w1 b hg hb; replace ST := Lib.hid (ST.out.made b hg hb); clear b hb; clear hg)
          | ((with_reducible refine Step.gate_box (t := 28) rfl ?_); refine Step.fresh (cs := #[.int .i64 kd, .int .i64 ak, .int .u64 eva, .int .u64 gpa, .bool false, .bool wr]) (T := 28) rfl ?hr ?_; (case hr => first | (go_simp; done) | (go_simp; rfl)); intro g2 w1 b hg hb; replace ST := Lib.hid (ST.out.made b hg hb); clear b hb; clear hg)
          | ((with_reducible refine Step.gate_load (t := 22) rfl ?_); refine Step.load ST.out.at0 rfl rfl rfl pl_u64 rfl ?_)
          | ((with_reducible refine Step.gate_load (t := 3) rfl ?_); refine Step.load ST.out.at0 rfl rfl rfl pl_int rfl ?_)
          | ((with_reducible refine Step.gate_load (t := 4) rfl ?_); refine Step.load ST.out.at0 rfl rfl rfl pl_bool rfl ?_)
          | ((with_reducible refine Step.gate_load (t := 22) rfl ?_); refine Step.loadG ST.out.at0 rfl rfl rfl pl_u64 rfl ?_)
          | ((with_reducible refine Step.gate_load (t := 3) rfl ?_); refine Step.loadG ST.out.at0 rfl rfl rfl pl_int rfl ?_)
          | ((with_reducible refine Step.gate_load (t := 4) rfl ?_); refine Step.loadG ST.out.at0 rfl rfl rfl pl_bool rfl ?_)
          | ((with_reducible refine Step.gate_load (t := 22) rfl ?_); refine Step.load ST.out.at1 rfl rfl rfl pl_u64 rfl ?_)
          | ((with_reducible refine Step.gate_load (t := 3) rfl ?_); refine Step.load ST.out.at1 rfl rfl rfl pl_int rfl ?_)
          | ((with_reducible refine Step.gate_load (t := 4) rfl ?_); refine Step.load ST.out.at1 rfl rfl rfl pl_bool rfl ?_)
          | ((with_reducible refine Step.gate_load (t := 22) rfl ?_); refine Step.loadG ST.out.at1 rfl rfl rfl pl_u64 rfl ?_)
          | ((with_reducible refine Step.gate_load (t := 3) rfl ?_); refine Step.loadG ST.out.at1 rfl rfl rfl pl_int rfl ?_)
          | ((with_reducible refine Step.gate_load (t := 4) rfl ?_); refine Step.loadG ST.out.at1 rfl rfl rfl pl_bool rfl ?_))
        all_goals (go_ret; exact ⟨rfl, ST.out.below⟩)
      | true =>
        simp only [Bool.not_false, Bool.and_true, Bool.true_and]
        go_enter Try.func7, Try.ntmps7
        have ST := Lib.hid (Kn.nil (S := Step.Nil) (W := w))
        go_wp2_with (first
          | ((with_reducible refine Step.gate_box (t := 30) rfl ?_); refine Step.fresh (cs := #[.bool true, .bool sg, .int .i64 sz, .int .i64 rg, .int .i64 ln, .int .u64 va, .int .u64 vl]) (T := 30) rfl ?hr ?_; (case hr => first | (go_simp; done) | (go_simp; rfl)); intro g1 w1 b hg hb; replace ST := Lib.hid (ST.out.made b hg hb); clear b hb; clear hg)
          | ((with_reducible refine Step.gate_box (t := 28) rfl ?_); refine Step.fresh (cs := #[.int .i64 kd, .int .i64 ak, .int .u64 eva, .int .u64 gpa, .bool false, .bool wr]) (T := 28) rfl ?hr ?_; (case hr => first | (go_simp; done) | (go_simp; rfl)); intro g2 w1 b hg hb; replace ST := Lib.hid (ST.out.made b hg hb); clear b hb; clear hg)
          | ((with_reducible refine Step.gate_load (t := 22) rfl ?_); refine Step.load ST.out.at0 rfl rfl rfl pl_u64 rfl ?_)
          | ((with_reducible refine Step.gate_load (t := 3) rfl ?_); refine Step.load ST.out.at0 rfl rfl rfl pl_int rfl ?_)
          | ((with_reducible refine Step.gate_load (t := 4) rfl ?_); refine Step.load ST.out.at0 rfl rfl rfl pl_bool rfl ?_)
          | ((with_reducible refine Step.gate_load (t := 22) rfl ?_); refine Step.loadG ST.out.at0 rfl rfl rfl pl_u64 rfl ?_)
          | ((with_reducible refine Step.gate_load (t := 3) rfl ?_); refine Step.loadG ST.out.at0 rfl rfl rfl pl_int rfl ?_)
          | ((with_reducible refine Step.gate_load (t := 4) rfl ?_); refine Step.loadG ST.out.at0 rfl rfl rfl pl_bool rfl ?_)
          | ((with_reducible refine Step.gate_load (t := 22) rfl ?_); refine Step.load ST.out.at1 rfl rfl rfl pl_u64 rfl ?_)
          | ((with_reducible refine Step.gate_load (t := 3) rfl ?_); refine Step.load ST.out.at1 rfl rfl rfl pl_int rfl ?_)
          | ((with_reducible refine Step.gate_load (t := 4) rfl ?_); refine Step.load ST.out.at1 rfl rfl rfl pl_bool rfl ?_)
          | ((with_reducible refine Step.gate_load (t := 22) rfl ?_); refine Step.loadG ST.out.at1 rfl rfl rfl pl_u64 rfl ?_)
          | ((with_reducible refine Step.gate_load (t := 3) rfl ?_); refine Step.loadG ST.out.at1 rfl rfl rfl pl_int rfl ?_)
          | ((with_reducible refine Step.gate_load (t := 4) rfl ?_); refine Step.loadG ST.out.at1 rfl rfl rfl pl_bool rfl ?_))
        all_goals (go_ret; exact ⟨rfl, ST.out.below⟩)
set_option maxHeartbeats 4000000 in
theorem match_any_false (sg : Bool) (sz rg ln va vl kd ak eva gpa : Int) (wk wr : Bool) (w : World) : Calls Try.prog 7 #[.agg #[.bool false, .bool sg, .int .i64 sz, .int .i64 rg, .int .i64 ln, .int .u64 va, .int .u64 vl], .agg #[.int .i64 kd, .int .i64 ak, .int .u64 eva, .int .u64 gpa, .bool wk, .bool wr]] w fun e w' => e = .returned (.bool ((kd == 3) && !wk && (ak == 2) && (eva == va))) ∧ Below w.heap.size w w' := by
  cases h1 : (kd == 3) with
  | false =>
    simp only [Bool.false_and]
    go_enter Try.func7, Try.ntmps7
    have ST := Lib.hid (Kn.nil (S := Step.Nil) (W := w))
    go_wp2_with (first
      | ((with_reducible refine Step.gate_box (t := 30) rfl ?_); refine Step.fresh (cs := #[.bool false, .bool sg, .int .i64 sz, .int .i64 rg, .int .i64 ln, .int .u64 va, .int .u64 vl]) (T := 30) rfl ?hr ?_; (case hr => first | (go_simp; done) | (go_simp; rfl)); intro g1 w1 b hg hb; replace ST := Lib.hid (ST.out.made b hg hb); clear b hb; clear hg)
      | ((with_reducible refine Step.gate_box (t := 28) rfl ?_); refine Step.fresh (cs := #[.int .i64 kd, .int .i64 ak, .int .u64 eva, .int .u64 gpa, .bool wk, .bool wr]) (T := 28) rfl ?hr ?_; (case hr => first | (go_simp; done) | (go_simp; rfl)); intro g2 w1 b hg hb; replace ST := Lib.hid (ST.out.made b hg hb); clear b hb; clear hg)
      | ((with_reducible refine Step.gate_load (t := 22) rfl ?_); refine Step.load ST.out.at0 rfl rfl rfl pl_u64 rfl ?_)
      | ((with_reducible refine Step.gate_load (t := 3) rfl ?_); refine Step.load ST.out.at0 rfl rfl rfl pl_int rfl ?_)
      | ((with_reducible refine Step.gate_load (t := 4) rfl ?_); refine Step.load ST.out.at0 rfl rfl rfl pl_bool rfl ?_)
      | ((with_reducible refine Step.gate_load (t := 22) rfl ?_); refine Step.loadG ST.out.at0 rfl rfl rfl pl_u64 rfl ?_)
      | ((with_reducible refine Step.gate_load (t := 3) rfl ?_); refine Step.loadG ST.out.at0 rfl rfl rfl pl_int rfl ?_)
      | ((with_reducible refine Step.gate_load (t := 4) rfl ?_); refine Step.loadG ST.out.at0 rfl rfl rfl pl_bool rfl ?_)
      | ((with_reducible refine Step.gate_load (t := 22) rfl ?_); refine Step.load ST.out.at1 rfl rfl rfl pl_u64 rfl ?_)
      | ((with_reducible refine Step.gate_load (t := 3) rfl ?_); refine Step.load ST.out.at1 rfl rfl rfl pl_int rfl ?_)
      | ((with_reducible refine Step.gate_load (t := 4) rfl ?_); refine Step.load ST.out.at1 rfl rfl rfl pl_bool rfl ?_)
      | ((with_reducible refine Step.gate_load (t := 22) rfl ?_); refine Step.loadG ST.out.at1 rfl rfl rfl pl_u64 rfl ?_)
      | ((with_reducible refine Step.gate_load (t := 3) rfl ?_); refine Step.loadG ST.out.at1 rfl rfl rfl pl_int rfl ?_)
      | ((with_reducible refine Step.gate_load (t := 4) rfl ?_); refine Step.loadG ST.out.at1 rfl rfl rfl pl_bool rfl ?_))
    all_goals (go_ret; exact ⟨rfl, ST.out.below⟩)
  | true =>
    cases wk with
    | true =>
      simp only [Bool.not_true, Bool.and_false, Bool.false_and]
      go_enter Try.func7, Try.ntmps7
      have ST := Lib.hid (Kn.nil (S := Step.Nil) (W := w))
      go_wp2_with (first
        | ((with_reducible refine Step.gate_box (t := 30) rfl ?_); refine Step.fresh (cs := #[.bool false, .bool sg, .int .i64 sz, .int .i64 rg, .int .i64 ln, .int .u64 va, .int .u64 vl]) (T := 30) rfl ?hr ?_; (case hr => first | (go_simp; done) | (go_simp; rfl)); intro g1 w1 b hg hb; replace ST := Lib.hid (ST.out.made b hg hb); clear b hb; clear hg)
        | ((with_reducible refine Step.gate_box (t := 28) rfl ?_); refine Step.fresh (cs := #[.int .i64 kd, .int .i64 ak, .int .u64 eva, .int .u64 gpa, .bool true, .bool wr]) (T := 28) rfl ?hr ?_; (case hr => first | (go_simp; done) | (go_simp; rfl)); intro g2 w1 b hg hb; replace ST := Lib.hid (ST.out.made b hg hb); clear b hb; clear hg)
        | ((with_reducible refine Step.gate_load (t := 22) rfl ?_); refine Step.load ST.out.at0 rfl rfl rfl pl_u64 rfl ?_)
        | ((with_reducible refine Step.gate_load (t := 3) rfl ?_); refine Step.load ST.out.at0 rfl rfl rfl pl_int rfl ?_)
        | ((with_reducible refine Step.gate_load (t := 4) rfl ?_); refine Step.load ST.out.at0 rfl rfl rfl pl_bool rfl ?_)
        | ((with_reducible refine Step.gate_load (t := 22) rfl ?_); refine Step.loadG ST.out.at0 rfl rfl rfl pl_u64 rfl ?_)
        | ((with_reducible refine Step.gate_load (t := 3) rfl ?_); refine Step.loadG ST.out.at0 rfl rfl rfl pl_int rfl ?_)
        | ((with_reducible refine Step.gate_load (t := 4) rfl ?_); refine Step.loadG ST.out.at0 rfl rfl rfl pl_bool rfl ?_)
        | ((with_reducible refine Step.gate_load (t := 22) rfl ?_); refine Step.load ST.out.at1 rfl rfl rfl pl_u64 rfl ?_)
        | ((with_reducible refine Step.gate_load (t := 3) rfl ?_); refine Step.load ST.out.at1 rfl rfl rfl pl_int rfl ?_)
        | ((with_reducible refine Step.gate_load (t := 4) rfl ?_); refine Step.load ST.out.at1 rfl rfl rfl pl_bool rfl ?_)
        | ((with_reducible refine Step.gate_load (t := 22) rfl ?_); refine Step.loadG ST.out.at1 rfl rfl rfl pl_u64 rfl ?_)
        | ((with_reducible refine Step.gate_load (t := 3) rfl ?_); refine Step.loadG ST.out.at1 rfl rfl rfl pl_int rfl ?_)
        | ((with_reducible refine Step.gate_load (t := 4) rfl ?_); refine Step.loadG ST.out.at1 rfl rfl rfl pl_bool rfl ?_))
      all_goals (go_ret; exact ⟨rfl, ST.out.below⟩)
    | false =>
      cases h2 : (ak == 2) with
      | false =>
        simp only [Bool.and_false, Bool.false_and]
        go_enter Try.func7, Try.ntmps7
        have ST := Lib.hid (Kn.nil (S := Step.Nil) (W := w))
        go_wp2_with (first
          | ((with_reducible refine Step.gate_box (t := 30) rfl ?_); refine Step.fresh (cs := #[.bool false, .bool sg, .int .i64 sz, .int .i64 rg, .int .i64 ln, .int .u64 va, .int .u64 vl]) (T := 30) rfl ?hr ?_; (case hr => first | (go_simp; done) | (go_simp; rfl)); intro g1 w1 b hg hb; replace ST := Lib.hid (ST.out.made b hg hb); clear b hb; clear hg)
          | ((with_reducible refine Step.gate_box (t := 28) rfl ?_); refine Step.fresh (cs := #[.int .i64 kd, .int .i64 ak, .int .u64 eva, .int .u64 gpa, .bool false, .bool wr]) (T := 28) rfl ?hr ?_; (case hr => first | (go_simp; done) | (go_simp; rfl)); intro g2 w1 b hg hb; replace ST := Lib.hid (ST.out.made b hg hb); clear b hb; clear hg)
          | ((with_reducible refine Step.gate_load (t := 22) rfl ?_); refine Step.load ST.out.at0 rfl rfl rfl pl_u64 rfl ?_)
          | ((with_reducible refine Step.gate_load (t := 3) rfl ?_); refine Step.load ST.out.at0 rfl rfl rfl pl_int rfl ?_)
          | ((with_reducible refine Step.gate_load (t := 4) rfl ?_); refine Step.load ST.out.at0 rfl rfl rfl pl_bool rfl ?_)
          | ((with_reducible refine Step.gate_load (t := 22) rfl ?_); refine Step.loadG ST.out.at0 rfl rfl rfl pl_u64 rfl ?_)
          | ((with_reducible refine Step.gate_load (t := 3) rfl ?_); refine Step.loadG ST.out.at0 rfl rfl rfl pl_int rfl ?_)
          | ((with_reducible refine Step.gate_load (t := 4) rfl ?_); refine Step.loadG ST.out.at0 rfl rfl rfl pl_bool rfl ?_)
          | ((with_reducible refine Step.gate_load (t := 22) rfl ?_); refine Step.load ST.out.at1 rfl rfl rfl pl_u64 rfl ?_)
          | ((with_reducible refine Step.gate_load (t := 3) rfl ?_); refine Step.load ST.out.at1 rfl rfl rfl pl_int rfl ?_)
          | ((with_reducible refine Step.gate_load (t := 4) rfl ?_); refine Step.load ST.out.at1 rfl rfl rfl pl_bool rfl ?_)
          | ((with_reducible refine Step.gate_load (t := 22) rfl ?_); refine Step.loadG ST.out.at1 rfl rfl rfl pl_u64 rfl ?_)
          | ((with_reducible refine Step.gate_load (t := 3) rfl ?_); refine Step.loadG ST.out.at1 rfl rfl rfl pl_int rfl ?_)
          | ((with_reducible refine Step.gate_load (t := 4) rfl ?_); refine Step.loadG ST.out.at1 rfl rfl rfl pl_bool rfl ?_))
        all_goals (go_ret; exact ⟨rfl, ST.out.below⟩)
      | true =>
        simp only [Bool.not_false, Bool.and_true, Bool.true_and]
        go_enter Try.func7, Try.ntmps7
        have ST := Lib.hid (Kn.nil (S := Step.Nil) (W := w))
        go_wp2_with (first
          | ((with_reducible refine Step.gate_box (t := 30) rfl ?_); refine Step.fresh (cs := #[.bool false, .bool sg, .int .i64 sz, .int .i64 rg, .int .i64 ln, .int .u64 va, .int .u64 vl]) (T := 30) rfl ?hr ?_; (case hr => first | (go_simp; done) | (go_simp; rfl)); intro g1 w1 b hg hb; replace ST := Lib.hid (ST.out.made b hg hb); clear b hb; clear hg)
          | ((with_reducible refine Step.gate_box (t := 28) rfl ?_); refine Step.fresh (cs := #[.int .i64 kd, .int .i64 ak, .int .u64 eva, .int .u64 gpa, .bool false, .bool wr]) (T := 28) rfl ?hr ?_; (case hr => first | (go_simp; done) | (go_simp; rfl)); intro g2 w1 b hg hb; replace ST := Lib.hid (ST.out.made b hg hb); clear b hb; clear hg)
          | ((with_reducible refine Step.gate_load (t := 22) rfl ?_); refine Step.load ST.out.at0 rfl rfl rfl pl_u64 rfl ?_)
          | ((with_reducible refine Step.gate_load (t := 3) rfl ?_); refine Step.load ST.out.at0 rfl rfl rfl pl_int rfl ?_)
          | ((with_reducible refine Step.gate_load (t := 4) rfl ?_); refine Step.load ST.out.at0 rfl rfl rfl pl_bool rfl ?_)
          | ((with_reducible refine Step.gate_load (t := 22) rfl ?_); refine Step.loadG ST.out.at0 rfl rfl rfl pl_u64 rfl ?_)
          | ((with_reducible refine Step.gate_load (t := 3) rfl ?_); refine Step.loadG ST.out.at0 rfl rfl rfl pl_int rfl ?_)
          | ((with_reducible refine Step.gate_load (t := 4) rfl ?_); refine Step.loadG ST.out.at0 rfl rfl rfl pl_bool rfl ?_)
          | ((with_reducible refine Step.gate_load (t := 22) rfl ?_); refine Step.load ST.out.at1 rfl rfl rfl pl_u64 rfl ?_)
          | ((with_reducible refine Step.gate_load (t := 3) rfl ?_); refine Step.load ST.out.at1 rfl rfl rfl pl_int rfl ?_)
          | ((with_reducible refine Step.gate_load (t := 4) rfl ?_); refine Step.load ST.out.at1 rfl rfl rfl pl_bool rfl ?_)
          | ((with_reducible refine Step.gate_load (t := 22) rfl ?_); refine Step.loadG ST.out.at1 rfl rfl rfl pl_u64 rfl ?_)
          | ((with_reducible refine Step.gate_load (t := 3) rfl ?_); refine Step.loadG ST.out.at1 rfl rfl rfl pl_int rfl ?_)
          | ((with_reducible refine Step.gate_load (t := 4) rfl ?_); refine Step.loadG ST.out.at1 rfl rfl rfl pl_bool rfl ?_))
        all_goals (go_ret; exact ⟨rfl, ST.out.below⟩)
theorem match_any (a : Acc) (v : Evt) (w : World) : Calls Try.prog 7 #[.agg a.cells, .agg v.cells] w fun e w' => e = .returned (.bool (mat a v)) ∧ Below w.heap.size w w' := by
  obtain ⟨st, sg, sz, rg, ln, va, vl⟩ := a
  obtain ⟨kd, ak, eva, gpa, wk, wr⟩ := v
  cases st with
  | true => exact match_any_true sg sz rg ln va vl kd ak eva gpa wk wr w
  | false => exact match_any_false sg sz rg ln va vl kd ak eva gpa wk wr w
set_option maxHeartbeats 4000000 in
theorem rmatch_any_true (sg : Bool) (sz rg ln va vl kd ak eva gpa : Int) (wk wr : Bool) (w : World) : Calls Try.prog 8 #[.agg #[.bool true, .bool sg, .int .i64 sz, .int .i64 rg, .int .i64 ln, .int .u64 va, .int .u64 vl], .agg #[.int .i64 kd, .int .i64 ak, .int .u64 eva, .int .u64 gpa, .bool wk, .bool wr]] w fun e w' => e = .returned (.bool ((kd == 3) && !wk && (ak == 3) && (eva == va))) ∧ Below w.heap.size w w' := by
  cases h1 : (kd == 3) with
  | false =>
    simp only [Bool.false_and]
    go_enter Try.func8, Try.ntmps8
    have ST := Lib.hid (Kn.nil (S := Step.Nil) (W := w))
    go_wp2_with (first
      | ((with_reducible refine Step.gate_box (t := 30) rfl ?_); refine Step.fresh (cs := #[.bool true, .bool sg, .int .i64 sz, .int .i64 rg, .int .i64 ln, .int .u64 va, .int .u64 vl]) (T := 30) rfl ?hr ?_; (case hr => first | (go_simp; done) | (go_simp; rfl)); intro g1 w1 b hg hb; replace ST := Lib.hid (ST.out.made b hg hb); clear b hb; clear hg)
      | ((with_reducible refine Step.gate_box (t := 28) rfl ?_); refine Step.fresh (cs := #[.int .i64 kd, .int .i64 ak, .int .u64 eva, .int .u64 gpa, .bool wk, .bool wr]) (T := 28) rfl ?hr ?_; (case hr => first | (go_simp; done) | (go_simp; rfl)); intro g2 w1 b hg hb; replace ST := Lib.hid (ST.out.made b hg hb); clear b hb; clear hg)
      | ((with_reducible refine Step.gate_load (t := 22) rfl ?_); refine Step.load ST.out.at0 rfl rfl rfl pl_u64 rfl ?_)
      | ((with_reducible refine Step.gate_load (t := 3) rfl ?_); refine Step.load ST.out.at0 rfl rfl rfl pl_int rfl ?_)
      | ((with_reducible refine Step.gate_load (t := 4) rfl ?_); refine Step.load ST.out.at0 rfl rfl rfl pl_bool rfl ?_)
      | ((with_reducible refine Step.gate_load (t := 22) rfl ?_); refine Step.loadG ST.out.at0 rfl rfl rfl pl_u64 rfl ?_)
      | ((with_reducible refine Step.gate_load (t := 3) rfl ?_); refine Step.loadG ST.out.at0 rfl rfl rfl pl_int rfl ?_)
      | ((with_reducible refine Step.gate_load (t := 4) rfl ?_); refine Step.loadG ST.out.at0 rfl rfl rfl pl_bool rfl ?_)
      | ((with_reducible refine Step.gate_load (t := 22) rfl ?_); refine Step.load ST.out.at1 rfl rfl rfl pl_u64 rfl ?_)
      | ((with_reducible refine Step.gate_load (t := 3) rfl ?_); refine Step.load ST.out.at1 rfl rfl rfl pl_int rfl ?_)
      | ((with_reducible refine Step.gate_load (t := 4) rfl ?_); refine Step.load ST.out.at1 rfl rfl rfl pl_bool rfl ?_)
      | ((with_reducible refine Step.gate_load (t := 22) rfl ?_); refine Step.loadG ST.out.at1 rfl rfl rfl pl_u64 rfl ?_)
      | ((with_reducible refine Step.gate_load (t := 3) rfl ?_); refine Step.loadG ST.out.at1 rfl rfl rfl pl_int rfl ?_)
      | ((with_reducible refine Step.gate_load (t := 4) rfl ?_); refine Step.loadG ST.out.at1 rfl rfl rfl pl_bool rfl ?_))
    all_goals (go_ret; exact ⟨rfl, ST.out.below⟩)
  | true =>
    cases wk with
    | true =>
      simp only [Bool.not_true, Bool.and_false, Bool.false_and]
      go_enter Try.func8, Try.ntmps8
      have ST := Lib.hid (Kn.nil (S := Step.Nil) (W := w))
      go_wp2_with (first
        | ((with_reducible refine Step.gate_box (t := 30) rfl ?_); refine Step.fresh (cs := #[.bool true, .bool sg, .int .i64 sz, .int .i64 rg, .int .i64 ln, .int .u64 va, .int .u64 vl]) (T := 30) rfl ?hr ?_; (case hr => first | (go_simp; done) | (go_simp; rfl)); intro g1 w1 b hg hb; replace ST := Lib.hid (ST.out.made b hg hb); clear b hb; clear hg)
        | ((with_reducible refine Step.gate_box (t := 28) rfl ?_); refine Step.fresh (cs := #[.int .i64 kd, .int .i64 ak, .int .u64 eva, .int .u64 gpa, .bool true, .bool wr]) (T := 28) rfl ?hr ?_; (case hr => first | (go_simp; done) | (go_simp; rfl)); intro g2 w1 b hg hb; replace ST := Lib.hid (ST.out.made b hg hb); clear b hb; clear hg)
        | ((with_reducible refine Step.gate_load (t := 22) rfl ?_); refine Step.load ST.out.at0 rfl rfl rfl pl_u64 rfl ?_)
        | ((with_reducible refine Step.gate_load (t := 3) rfl ?_); refine Step.load ST.out.at0 rfl rfl rfl pl_int rfl ?_)
        | ((with_reducible refine Step.gate_load (t := 4) rfl ?_); refine Step.load ST.out.at0 rfl rfl rfl pl_bool rfl ?_)
        | ((with_reducible refine Step.gate_load (t := 22) rfl ?_); refine Step.loadG ST.out.at0 rfl rfl rfl pl_u64 rfl ?_)
        | ((with_reducible refine Step.gate_load (t := 3) rfl ?_); refine Step.loadG ST.out.at0 rfl rfl rfl pl_int rfl ?_)
        | ((with_reducible refine Step.gate_load (t := 4) rfl ?_); refine Step.loadG ST.out.at0 rfl rfl rfl pl_bool rfl ?_)
        | ((with_reducible refine Step.gate_load (t := 22) rfl ?_); refine Step.load ST.out.at1 rfl rfl rfl pl_u64 rfl ?_)
        | ((with_reducible refine Step.gate_load (t := 3) rfl ?_); refine Step.load ST.out.at1 rfl rfl rfl pl_int rfl ?_)
        | ((with_reducible refine Step.gate_load (t := 4) rfl ?_); refine Step.load ST.out.at1 rfl rfl rfl pl_bool rfl ?_)
        | ((with_reducible refine Step.gate_load (t := 22) rfl ?_); refine Step.loadG ST.out.at1 rfl rfl rfl pl_u64 rfl ?_)
        | ((with_reducible refine Step.gate_load (t := 3) rfl ?_); refine Step.loadG ST.out.at1 rfl rfl rfl pl_int rfl ?_)
        | ((with_reducible refine Step.gate_load (t := 4) rfl ?_); refine Step.loadG ST.out.at1 rfl rfl rfl pl_bool rfl ?_))
      all_goals (go_ret; exact ⟨rfl, ST.out.below⟩)
    | false =>
      cases h2 : (ak == 3) with
      | false =>
        simp only [Bool.and_false, Bool.false_and]
        go_enter Try.func8, Try.ntmps8
        have ST := Lib.hid (Kn.nil (S := Step.Nil) (W := w))
        go_wp2_with (first
          | ((with_reducible refine Step.gate_box (t := 30) rfl ?_); refine Step.fresh (cs := #[.bool true, .bool sg, .int .i64 sz, .int .i64 rg, .int .i64 ln, .int .u64 va, .int .u64 vl]) (T := 30) rfl ?hr ?_; (case hr => first | (go_simp; done) | (go_simp; rfl)); intro g1 w1 b hg hb; replace ST := Lib.hid (ST.out.made b hg hb); clear b hb; clear hg)
          | ((with_reducible refine Step.gate_box (t := 28) rfl ?_); refine Step.fresh (cs := #[.int .i64 kd, .int .i64 ak, .int .u64 eva, .int .u64 gpa, .bool false, .bool wr]) (T := 28) rfl ?hr ?_; (case hr => first | (go_simp; done) | (go_simp; rfl)); intro g2 w1 b hg hb; replace ST := Lib.hid (ST.out.made b hg hb); clear b hb; clear hg)
          | ((with_reducible refine Step.gate_load (t := 22) rfl ?_); refine Step.load ST.out.at0 rfl rfl rfl pl_u64 rfl ?_)
          | ((with_reducible refine Step.gate_load (t := 3) rfl ?_); refine Step.load ST.out.at0 rfl rfl rfl pl_int rfl ?_)
          | ((with_reducible refine Step.gate_load (t := 4) rfl ?_); refine Step.load ST.out.at0 rfl rfl rfl pl_bool rfl ?_)
          | ((with_reducible refine Step.gate_load (t := 22) rfl ?_); refine Step.loadG ST.out.at0 rfl rfl rfl pl_u64 rfl ?_)
          | ((with_reducible refine Step.gate_load (t := 3) rfl ?_); refine Step.loadG ST.out.at0 rfl rfl rfl pl_int rfl ?_)
          | ((with_reducible refine Step.gate_load (t := 4) rfl ?_); refine Step.loadG ST.out.at0 rfl rfl rfl pl_bool rfl ?_)
          | ((with_reducible refine Step.gate_load (t := 22) rfl ?_); refine Step.load ST.out.at1 rfl rfl rfl pl_u64 rfl ?_)
          | ((with_reducible refine Step.gate_load (t := 3) rfl ?_); refine Step.load ST.out.at1 rfl rfl rfl pl_int rfl ?_)
          | ((with_reducible refine Step.gate_load (t := 4) rfl ?_); refine Step.load ST.out.at1 rfl rfl rfl pl_bool rfl ?_)
          | ((with_reducible refine Step.gate_load (t := 22) rfl ?_); refine Step.loadG ST.out.at1 rfl rfl rfl pl_u64 rfl ?_)
          | ((with_reducible refine Step.gate_load (t := 3) rfl ?_); refine Step.loadG ST.out.at1 rfl rfl rfl pl_int rfl ?_)
          | ((with_reducible refine Step.gate_load (t := 4) rfl ?_); refine Step.loadG ST.out.at1 rfl rfl rfl pl_bool rfl ?_))
        all_goals (go_ret; exact ⟨rfl, ST.out.below⟩)
      | true =>
        simp only [Bool.not_false, Bool.and_true, Bool.true_and]
        go_enter Try.func8, Try.ntmps8
        have ST := Lib.hid (Kn.nil (S := Step.Nil) (W := w))
        go_wp2_with (first
          | ((with_reducible refine Step.gate_box (t := 30) rfl ?_); refine Step.fresh (cs := #[.bool true, .bool sg, .int .i64 sz, .int .i64 rg, .int .i64 ln, .int .u64 va, .int .u64 vl]) (T := 30) rfl ?hr ?_; (case hr => first | (go_simp; done) | (go_simp; rfl)); intro g1 w1 b hg hb; replace ST := Lib.hid (ST.out.made b hg hb); clear b hb; clear hg)
          | ((with_reducible refine Step.gate_box (t := 28) rfl ?_); refine Step.fresh (cs := #[.int .i64 kd, .int .i64 ak, .int .u64 eva, .int .u64 gpa, .bool false, .bool wr]) (T := 28) rfl ?hr ?_; (case hr => first | (go_simp; done) | (go_simp; rfl)); intro g2 w1 b hg hb; replace ST := Lib.hid (ST.out.made b hg hb); clear b hb; clear hg)
          | ((with_reducible refine Step.gate_load (t := 22) rfl ?_); refine Step.load ST.out.at0 rfl rfl rfl pl_u64 rfl ?_)
          | ((with_reducible refine Step.gate_load (t := 3) rfl ?_); refine Step.load ST.out.at0 rfl rfl rfl pl_int rfl ?_)
          | ((with_reducible refine Step.gate_load (t := 4) rfl ?_); refine Step.load ST.out.at0 rfl rfl rfl pl_bool rfl ?_)
          | ((with_reducible refine Step.gate_load (t := 22) rfl ?_); refine Step.loadG ST.out.at0 rfl rfl rfl pl_u64 rfl ?_)
          | ((with_reducible refine Step.gate_load (t := 3) rfl ?_); refine Step.loadG ST.out.at0 rfl rfl rfl pl_int rfl ?_)
          | ((with_reducible refine Step.gate_load (t := 4) rfl ?_); refine Step.loadG ST.out.at0 rfl rfl rfl pl_bool rfl ?_)
          | ((with_reducible refine Step.gate_load (t := 22) rfl ?_); refine Step.load ST.out.at1 rfl rfl rfl pl_u64 rfl ?_)
          | ((with_reducible refine Step.gate_load (t := 3) rfl ?_); refine Step.load ST.out.at1 rfl rfl rfl pl_int rfl ?_)
          | ((with_reducible refine Step.gate_load (t := 4) rfl ?_); refine Step.load ST.out.at1 rfl rfl rfl pl_bool rfl ?_)
          | ((with_reducible refine Step.gate_load (t := 22) rfl ?_); refine Step.loadG ST.out.at1 rfl rfl rfl pl_u64 rfl ?_)
          | ((with_reducible refine Step.gate_load (t := 3) rfl ?_); refine Step.loadG ST.out.at1 rfl rfl rfl pl_int rfl ?_)
          | ((with_reducible refine Step.gate_load (t := 4) rfl ?_); refine Step.loadG ST.out.at1 rfl rfl rfl pl_bool rfl ?_))
        all_goals (go_ret; exact ⟨rfl, ST.out.below⟩)
set_option maxHeartbeats 4000000 in
theorem rmatch_any_false (sg : Bool) (sz rg ln va vl kd ak eva gpa : Int) (wk wr : Bool) (w : World) : Calls Try.prog 8 #[.agg #[.bool false, .bool sg, .int .i64 sz, .int .i64 rg, .int .i64 ln, .int .u64 va, .int .u64 vl], .agg #[.int .i64 kd, .int .i64 ak, .int .u64 eva, .int .u64 gpa, .bool wk, .bool wr]] w fun e w' => e = .returned (.bool ((kd == 3) && !wk && (ak == 2) && (eva == va))) ∧ Below w.heap.size w w' := by
  cases h1 : (kd == 3) with
  | false =>
    simp only [Bool.false_and]
    go_enter Try.func8, Try.ntmps8
    have ST := Lib.hid (Kn.nil (S := Step.Nil) (W := w))
    go_wp2_with (first
      | ((with_reducible refine Step.gate_box (t := 30) rfl ?_); refine Step.fresh (cs := #[.bool false, .bool sg, .int .i64 sz, .int .i64 rg, .int .i64 ln, .int .u64 va, .int .u64 vl]) (T := 30) rfl ?hr ?_; (case hr => first | (go_simp; done) | (go_simp; rfl)); intro g1 w1 b hg hb; replace ST := Lib.hid (ST.out.made b hg hb); clear b hb; clear hg)
      | ((with_reducible refine Step.gate_box (t := 28) rfl ?_); refine Step.fresh (cs := #[.int .i64 kd, .int .i64 ak, .int .u64 eva, .int .u64 gpa, .bool wk, .bool wr]) (T := 28) rfl ?hr ?_; (case hr => first | (go_simp; done) | (go_simp; rfl)); intro g2 w1 b hg hb; replace ST := Lib.hid (ST.out.made b hg hb); clear b hb; clear hg)
      | ((with_reducible refine Step.gate_load (t := 22) rfl ?_); refine Step.load ST.out.at0 rfl rfl rfl pl_u64 rfl ?_)
      | ((with_reducible refine Step.gate_load (t := 3) rfl ?_); refine Step.load ST.out.at0 rfl rfl rfl pl_int rfl ?_)
      | ((with_reducible refine Step.gate_load (t := 4) rfl ?_); refine Step.load ST.out.at0 rfl rfl rfl pl_bool rfl ?_)
      | ((with_reducible refine Step.gate_load (t := 22) rfl ?_); refine Step.loadG ST.out.at0 rfl rfl rfl pl_u64 rfl ?_)
      | ((with_reducible refine Step.gate_load (t := 3) rfl ?_); refine Step.loadG ST.out.at0 rfl rfl rfl pl_int rfl ?_)
      | ((with_reducible refine Step.gate_load (t := 4) rfl ?_); refine Step.loadG ST.out.at0 rfl rfl rfl pl_bool rfl ?_)
      | ((with_reducible refine Step.gate_load (t := 22) rfl ?_); refine Step.load ST.out.at1 rfl rfl rfl pl_u64 rfl ?_)
      | ((with_reducible refine Step.gate_load (t := 3) rfl ?_); refine Step.load ST.out.at1 rfl rfl rfl pl_int rfl ?_)
      | ((with_reducible refine Step.gate_load (t := 4) rfl ?_); refine Step.load ST.out.at1 rfl rfl rfl pl_bool rfl ?_)
      | ((with_reducible refine Step.gate_load (t := 22) rfl ?_); refine Step.loadG ST.out.at1 rfl rfl rfl pl_u64 rfl ?_)
      | ((with_reducible refine Step.gate_load (t := 3) rfl ?_); refine Step.loadG ST.out.at1 rfl rfl rfl pl_int rfl ?_)
      | ((with_reducible refine Step.gate_load (t := 4) rfl ?_); refine Step.loadG ST.out.at1 rfl rfl rfl pl_bool rfl ?_))
    all_goals (go_ret; exact ⟨rfl, ST.out.below⟩)
  | true =>
    cases wk with
    | true =>
      simp only [Bool.not_true, Bool.and_false, Bool.false_and]
      go_enter Try.func8, Try.ntmps8
      have ST := Lib.hid (Kn.nil (S := Step.Nil) (W := w))
      go_wp2_with (first
        | ((with_reducible refine Step.gate_box (t := 30) rfl ?_); refine Step.fresh (cs := #[.bool false, .bool sg, .int .i64 sz, .int .i64 rg, .int .i64 ln, .int .u64 va, .int .u64 vl]) (T := 30) rfl ?hr ?_; (case hr => first | (go_simp; done) | (go_simp; rfl)); intro g1 w1 b hg hb; replace ST := Lib.hid (ST.out.made b hg hb); clear b hb; clear hg)
        | ((with_reducible refine Step.gate_box (t := 28) rfl ?_); refine Step.fresh (cs := #[.int .i64 kd, .int .i64 ak, .int .u64 eva, .int .u64 gpa, .bool true, .bool wr]) (T := 28) rfl ?hr ?_; (case hr => first | (go_simp; done) | (go_simp; rfl)); intro g2 w1 b hg hb; replace ST := Lib.hid (ST.out.made b hg hb); clear b hb; clear hg)
        | ((with_reducible refine Step.gate_load (t := 22) rfl ?_); refine Step.load ST.out.at0 rfl rfl rfl pl_u64 rfl ?_)
        | ((with_reducible refine Step.gate_load (t := 3) rfl ?_); refine Step.load ST.out.at0 rfl rfl rfl pl_int rfl ?_)
        | ((with_reducible refine Step.gate_load (t := 4) rfl ?_); refine Step.load ST.out.at0 rfl rfl rfl pl_bool rfl ?_)
        | ((with_reducible refine Step.gate_load (t := 22) rfl ?_); refine Step.loadG ST.out.at0 rfl rfl rfl pl_u64 rfl ?_)
        | ((with_reducible refine Step.gate_load (t := 3) rfl ?_); refine Step.loadG ST.out.at0 rfl rfl rfl pl_int rfl ?_)
        | ((with_reducible refine Step.gate_load (t := 4) rfl ?_); refine Step.loadG ST.out.at0 rfl rfl rfl pl_bool rfl ?_)
        | ((with_reducible refine Step.gate_load (t := 22) rfl ?_); refine Step.load ST.out.at1 rfl rfl rfl pl_u64 rfl ?_)
        | ((with_reducible refine Step.gate_load (t := 3) rfl ?_); refine Step.load ST.out.at1 rfl rfl rfl pl_int rfl ?_)
        | ((with_reducible refine Step.gate_load (t := 4) rfl ?_); refine Step.load ST.out.at1 rfl rfl rfl pl_bool rfl ?_)
        | ((with_reducible refine Step.gate_load (t := 22) rfl ?_); refine Step.loadG ST.out.at1 rfl rfl rfl pl_u64 rfl ?_)
        | ((with_reducible refine Step.gate_load (t := 3) rfl ?_); refine Step.loadG ST.out.at1 rfl rfl rfl pl_int rfl ?_)
        | ((with_reducible refine Step.gate_load (t := 4) rfl ?_); refine Step.loadG ST.out.at1 rfl rfl rfl pl_bool rfl ?_))
      all_goals (go_ret; exact ⟨rfl, ST.out.below⟩)
    | false =>
      cases h2 : (ak == 2) with
      | false =>
        simp only [Bool.and_false, Bool.false_and]
        go_enter Try.func8, Try.ntmps8
        have ST := Lib.hid (Kn.nil (S := Step.Nil) (W := w))
        go_wp2_with (first
          | ((with_reducible refine Step.gate_box (t := 30) rfl ?_); refine Step.fresh (cs := #[.bool false, .bool sg, .int .i64 sz, .int .i64 rg, .int .i64 ln, .int .u64 va, .int .u64 vl]) (T := 30) rfl ?hr ?_; (case hr => first | (go_simp; done) | (go_simp; rfl)); intro g1 w1 b hg hb; replace ST := Lib.hid (ST.out.made b hg hb); clear b hb; clear hg)
          | ((with_reducible refine Step.gate_box (t := 28) rfl ?_); refine Step.fresh (cs := #[.int .i64 kd, .int .i64 ak, .int .u64 eva, .int .u64 gpa, .bool false, .bool wr]) (T := 28) rfl ?hr ?_; (case hr => first | (go_simp; done) | (go_simp; rfl)); intro g2 w1 b hg hb; replace ST := Lib.hid (ST.out.made b hg hb); clear b hb; clear hg)
          | ((with_reducible refine Step.gate_load (t := 22) rfl ?_); refine Step.load ST.out.at0 rfl rfl rfl pl_u64 rfl ?_)
          | ((with_reducible refine Step.gate_load (t := 3) rfl ?_); refine Step.load ST.out.at0 rfl rfl rfl pl_int rfl ?_)
          | ((with_reducible refine Step.gate_load (t := 4) rfl ?_); refine Step.load ST.out.at0 rfl rfl rfl pl_bool rfl ?_)
          | ((with_reducible refine Step.gate_load (t := 22) rfl ?_); refine Step.loadG ST.out.at0 rfl rfl rfl pl_u64 rfl ?_)
          | ((with_reducible refine Step.gate_load (t := 3) rfl ?_); refine Step.loadG ST.out.at0 rfl rfl rfl pl_int rfl ?_)
          | ((with_reducible refine Step.gate_load (t := 4) rfl ?_); refine Step.loadG ST.out.at0 rfl rfl rfl pl_bool rfl ?_)
          | ((with_reducible refine Step.gate_load (t := 22) rfl ?_); refine Step.load ST.out.at1 rfl rfl rfl pl_u64 rfl ?_)
          | ((with_reducible refine Step.gate_load (t := 3) rfl ?_); refine Step.load ST.out.at1 rfl rfl rfl pl_int rfl ?_)
          | ((with_reducible refine Step.gate_load (t := 4) rfl ?_); refine Step.load ST.out.at1 rfl rfl rfl pl_bool rfl ?_)
          | ((with_reducible refine Step.gate_load (t := 22) rfl ?_); refine Step.loadG ST.out.at1 rfl rfl rfl pl_u64 rfl ?_)
          | ((with_reducible refine Step.gate_load (t := 3) rfl ?_); refine Step.loadG ST.out.at1 rfl rfl rfl pl_int rfl ?_)
          | ((with_reducible refine Step.gate_load (t := 4) rfl ?_); refine Step.loadG ST.out.at1 rfl rfl rfl pl_bool rfl ?_))
        all_goals (go_ret; exact ⟨rfl, ST.out.below⟩)
      | true =>
        simp only [Bool.not_false, Bool.and_true, Bool.true_and]
        go_enter Try.func8, Try.ntmps8
        have ST := Lib.hid (Kn.nil (S := Step.Nil) (W := w))
        go_wp2_with (first
          | ((with_reducible refine Step.gate_box (t := 30) rfl ?_); refine Step.fresh (cs := #[.bool false, .bool sg, .int .i64 sz, .int .i64 rg, .int .i64 ln, .int .u64 va, .int .u64 vl]) (T := 30) rfl ?hr ?_; (case hr => first | (go_simp; done) | (go_simp; rfl)); intro g1 w1 b hg hb; replace ST := Lib.hid (ST.out.made b hg hb); clear b hb; clear hg)
          | ((with_reducible refine Step.gate_box (t := 28) rfl ?_); refine Step.fresh (cs := #[.int .i64 kd, .int .i64 ak, .int .u64 eva, .int .u64 gpa, .bool false, .bool wr]) (T := 28) rfl ?hr ?_; (case hr => first | (go_simp; done) | (go_simp; rfl)); intro g2 w1 b hg hb; replace ST := Lib.hid (ST.out.made b hg hb); clear b hb; clear hg)
          | ((with_reducible refine Step.gate_load (t := 22) rfl ?_); refine Step.load ST.out.at0 rfl rfl rfl pl_u64 rfl ?_)
          | ((with_reducible refine Step.gate_load (t := 3) rfl ?_); refine Step.load ST.out.at0 rfl rfl rfl pl_int rfl ?_)
          | ((with_reducible refine Step.gate_load (t := 4) rfl ?_); refine Step.load ST.out.at0 rfl rfl rfl pl_bool rfl ?_)
          | ((with_reducible refine Step.gate_load (t := 22) rfl ?_); refine Step.loadG ST.out.at0 rfl rfl rfl pl_u64 rfl ?_)
          | ((with_reducible refine Step.gate_load (t := 3) rfl ?_); refine Step.loadG ST.out.at0 rfl rfl rfl pl_int rfl ?_)
          | ((with_reducible refine Step.gate_load (t := 4) rfl ?_); refine Step.loadG ST.out.at0 rfl rfl rfl pl_bool rfl ?_)
          | ((with_reducible refine Step.gate_load (t := 22) rfl ?_); refine Step.load ST.out.at1 rfl rfl rfl pl_u64 rfl ?_)
          | ((with_reducible refine Step.gate_load (t := 3) rfl ?_); refine Step.load ST.out.at1 rfl rfl rfl pl_int rfl ?_)
          | ((with_reducible refine Step.gate_load (t := 4) rfl ?_); refine Step.load ST.out.at1 rfl rfl rfl pl_bool rfl ?_)
          | ((with_reducible refine Step.gate_load (t := 22) rfl ?_); refine Step.loadG ST.out.at1 rfl rfl rfl pl_u64 rfl ?_)
          | ((with_reducible refine Step.gate_load (t := 3) rfl ?_); refine Step.loadG ST.out.at1 rfl rfl rfl pl_int rfl ?_)
          | ((with_reducible refine Step.gate_load (t := 4) rfl ?_); refine Step.loadG ST.out.at1 rfl rfl rfl pl_bool rfl ?_))
        all_goals (go_ret; exact ⟨rfl, ST.out.below⟩)
theorem rmatch_any (a : Acc) (v : Evt) (w : World) : Calls Try.prog 8 #[.agg a.cells, .agg v.cells] w fun e w' => e = .returned (.bool (mat a v)) ∧ Below w.heap.size w w' := by
  obtain ⟨st, sg, sz, rg, ln, va, vl⟩ := a
  obtain ⟨kd, ak, eva, gpa, wk, wr⟩ := v
  cases st with
  | true => exact rmatch_any_true sg sz rg ln va vl kd ak eva gpa wk wr w
  | false => exact rmatch_any_false sg sz rg ln va vl kd ak eva gpa wk wr w
/-- A hart behind a load or store that is ended. -/
def finP (h : Hrt) (ln : Int) : Hrt := { h with pc := IntKind.u64.wrap (h.pc + IntKind.u64.wrap ln) }
def finX (h : Hrt) (n : Nat) (v : Int) : Hrt := { h with x := xup h.x n v }
def fin (h : Hrt) (a : Acc) (v : Int) : Hrt := ord (if a.st = false ∧ 1 ≤ a.rg ∧ a.rg ≤ 31 then finX (finP (ord h) a.ln) a.rg.toNat (extV v a.sz a.sg) else finP (ord h) a.ln)
theorem wrapu_w (v : Int) : U64 (IntKind.u64.wrap v) := by refine ⟨?_⟩; rw [IntKind.wrap_u64]; omega
theorem finP_fit {h : Hrt} (hf : Fit h) (ln : Int) : Fit (finP h ln) := { hf with pc := wrapu_w _ }
theorem finX_fit {h : Hrt} (hf : Fit h) (n : Nat) {v : Int} (hv : U64 v) : Fit (finX h n v) := by
  refine { hf with x := fun i hi => ?_ }
  show U64 (xup h.x n v i)
  unfold xup
  split
  · exact hv
  · exact hf.x i hi
theorem nat_blt {a b : Nat} (h : a < b) : Nat.blt a b = true := Nat.ble_eq_true_of_le h
set_option maxHeartbeats 4000000 in
theorem finish_st (h : Hrt) (hf : Fit h) (sg : Bool) (sz rg ln va vl v : Int) (w : World) : Calls Try.prog 10 #[.agg (hc h), .agg #[.bool true, .bool sg, .int .i64 sz, .int .i64 rg, .int .i64 ln, .int .u64 va, .int .u64 vl], .int .u64 v] w fun e w' => e = .returned (.agg (hc (ord (finP (ord h) ln)))) ∧ Below w.heap.size w w' := by
  have T0 := Lib.hid (morder_any h hf)
  have T1 := Lib.hid (morder_any (finP (ord h) ln) (finP_fit (ord_fit hf) ln))
  clear hf
  generalize ord (finP (ord h) ln) = r at *
  dsimp only [finP] at T1
  generalize ord h = h2 at *
  go_enter Try.func10, Try.ntmps10
  have ST := Lib.hid (Kn.nil (S := Step.Nil) (W := w))
  go_wp2_with (first
    | (go_at_call 14; (with_reducible refine (T0.out _).mono ?_); rintro e w' ⟨rfl, hb⟩; replace ST := Lib.hid (ST.out.call hb); clear hb)
    | (go_at_call 14; (with_reducible refine (T1.out _).mono ?_); rintro e w' ⟨rfl, hb⟩; replace ST := Lib.hid (ST.out.call hb); clear hb)
    | ((with_reducible refine Step.gate_box (t := 25) rfl ?_); refine Step.fresh (cs := hc h) (T := 25) rfl ?hr ?_; (case hr => first | (go_simp; done) | (go_simp; rfl)); intro g1 w1 b hg hb; replace ST := Lib.hid (ST.out.made b hg hb); clear b hb; clear hg)
    | ((with_reducible refine Step.gate_box (t := 30) rfl ?_); refine Step.fresh (cs := #[.bool true, .bool sg, .int .i64 sz, .int .i64 rg, .int .i64 ln, .int .u64 va, .int .u64 vl]) (T := 30) rfl ?hr ?_; (case hr => first | (go_simp; done) | (go_simp; rfl)); intro g2 w1 b hg hb; replace ST := Lib.hid (ST.out.made b hg hb); clear b hb; clear hg)
    | ((with_reducible refine Step.gate_alloc (t := 25) rfl ?_); refine Step.freshAlloc rfl rfl (alloc_agg zero_hart) ?_; intro g3 w2 b hg hb; replace ST := Lib.hid (ST.out.made b hg hb); clear b hb; clear hg)
    | ((with_reducible refine Step.gate_load (t := 22) rfl ?_); refine Step.load ST.out.at1 rfl rfl rfl pl_u64 rfl ?_)
    | ((with_reducible refine Step.gate_load (t := 3) rfl ?_); refine Step.load ST.out.at1 rfl rfl rfl pl_int rfl ?_)
    | ((with_reducible refine Step.gate_load (t := 4) rfl ?_); refine Step.load ST.out.at1 rfl rfl rfl pl_bool rfl ?_)
    | ((with_reducible refine Step.gate_load (t := 22) rfl ?_); refine Step.loadG ST.out.at1 rfl rfl rfl pl_u64 rfl ?_)
    | ((with_reducible refine Step.gate_load (t := 3) rfl ?_); refine Step.loadG ST.out.at1 rfl rfl rfl pl_int rfl ?_)
    | ((with_reducible refine Step.gate_load (t := 4) rfl ?_); refine Step.loadG ST.out.at1 rfl rfl rfl pl_bool rfl ?_)
    | ((with_reducible refine Step.gate_load (t := 22) rfl ?_); refine Step.load ST.out.at2 rfl rfl rfl pl_u64 (hv_ok _ (by decide)) ?_; simp only [hv_x0, hv_pc, hv_user, hv_on, hv_spie, hv_spp, hv_sum, hv_mxr, hv_rsv, hv_stvec, hv_sscr, hv_sepc, hv_scause, hv_stval, hv_sie, hv_sip, hv_satp, hv_resv])
    | ((with_reducible refine Step.gate_load (t := 4) rfl ?_); refine Step.load ST.out.at2 rfl rfl rfl pl_bool (hv_ok _ (by decide)) ?_; simp only [hv_x0, hv_pc, hv_user, hv_on, hv_spie, hv_spp, hv_sum, hv_mxr, hv_rsv, hv_stvec, hv_sscr, hv_sepc, hv_scause, hv_stval, hv_sie, hv_sip, hv_satp, hv_resv])
    | ((with_reducible refine Step.gate_store (t := 22) rfl ?_); refine Step.store ST.out.at2 rfl rfl rfl rfl rfl pl_u64 rfl rfl ?_; intro w3 nb m; simp [go_sem, set_x0, set_pc, set_user, set_on, set_spie, set_spp, set_sum, set_mxr, set_rsv, set_stvec, set_sscr, set_sepc, set_scause, set_stval, set_sie, set_sip, set_satp, set_resv] at nb; replace ST := Lib.hid (ST.out.set2 nb m); clear nb m)
    | ((with_reducible refine Step.gate_store (t := 4) rfl ?_); refine Step.store ST.out.at2 rfl rfl rfl rfl rfl pl_bool rfl rfl ?_; intro w3 nb m; simp [go_sem, set_x0, set_pc, set_user, set_on, set_spie, set_spp, set_sum, set_mxr, set_rsv, set_stvec, set_sscr, set_sepc, set_scause, set_stval, set_sie, set_sip, set_satp, set_resv] at nb; replace ST := Lib.hid (ST.out.set2 nb m); clear nb m)
    | ((with_reducible refine Step.gate_store (t := 25) rfl ?_); refine Step.storeAll ST.out.at2 rfl rfl rfl rfl rfl (size_hart _) rfl (hc_all _) ?_; intro w3 nb m; replace ST := Lib.hid (ST.out.set2 nb m); clear nb m)
    | ((with_reducible refine Step.gate_load (t := 25) rfl ?_); refine Step.loadAll ST.out.at2 rfl rfl rfl Try.underlying25 rfl (size_hart _) ?_)
    | ((with_reducible refine Step.gate_store (t := 25) rfl ?_); refine Step.storeAll ST.out.at0 rfl rfl rfl rfl rfl (size_hart _) rfl (hc_all _) ?_; intro w3 nb m; replace ST := Lib.hid (ST.out.set0 nb m); clear nb m)
    | ((with_reducible refine Step.gate_load (t := 25) rfl ?_); refine Step.loadAll ST.out.at0 rfl rfl rfl Try.underlying25 rfl (size_hart _) ?_))
  all_goals (refine bodyPost_ret (results_row rfl _ _ _ _ _ _ rfl ST.out.at0 Try.underlying25 rfl (size_hart _)) rfl ⟨rfl, ST.out.below⟩)
set_option maxHeartbeats 4000000 in
theorem finish_lo (h : Hrt) (hf : Fit h) (sg : Bool) (sz rg ln va vl v : Int) (hl : ¬ 1 ≤ rg) (w : World) : Calls Try.prog 10 #[.agg (hc h), .agg #[.bool false, .bool sg, .int .i64 sz, .int .i64 rg, .int .i64 ln, .int .u64 va, .int .u64 vl], .int .u64 v] w fun e w' => e = .returned (.agg (hc (ord (finP (ord h) ln)))) ∧ Below w.heap.size w w' := by
  have e1 : (rg ≥ 1) = False := eq_false hl
  have T0 := Lib.hid (morder_any h hf)
  have T1 := Lib.hid (morder_any (finP (ord h) ln) (finP_fit (ord_fit hf) ln))
  clear hf
  generalize ord (finP (ord h) ln) = r at *
  dsimp only [finP] at T1
  generalize ord h = h2 at *
  go_enter Try.func10, Try.ntmps10
  have ST := Lib.hid (Kn.nil (S := Step.Nil) (W := w))
  go_wp2_with (first
    | (go_at_call 14; (with_reducible refine (T0.out _).mono ?_); rintro e w' ⟨rfl, hb⟩; replace ST := Lib.hid (ST.out.call hb); clear hb)
    | (go_at_call 14; (with_reducible refine (T1.out _).mono ?_); rintro e w' ⟨rfl, hb⟩; replace ST := Lib.hid (ST.out.call hb); clear hb)
    | ((with_reducible refine Step.gate_box (t := 25) rfl ?_); refine Step.fresh (cs := hc h) (T := 25) rfl ?hr ?_; (case hr => first | (go_simp; done) | (go_simp; rfl)); intro g1 w1 b hg hb; replace ST := Lib.hid (ST.out.made b hg hb); clear b hb; clear hg)
    | ((with_reducible refine Step.gate_box (t := 30) rfl ?_); refine Step.fresh (cs := #[.bool false, .bool sg, .int .i64 sz, .int .i64 rg, .int .i64 ln, .int .u64 va, .int .u64 vl]) (T := 30) rfl ?hr ?_; (case hr => first | (go_simp; done) | (go_simp; rfl)); intro g2 w1 b hg hb; replace ST := Lib.hid (ST.out.made b hg hb); clear b hb; clear hg)
    | ((with_reducible refine Step.gate_alloc (t := 25) rfl ?_); refine Step.freshAlloc rfl rfl (alloc_agg zero_hart) ?_; intro g3 w2 b hg hb; replace ST := Lib.hid (ST.out.made b hg hb); clear b hb; clear hg)
    | ((with_reducible refine Step.gate_load (t := 22) rfl ?_); refine Step.load ST.out.at1 rfl rfl rfl pl_u64 rfl ?_)
    | ((with_reducible refine Step.gate_load (t := 3) rfl ?_); refine Step.load ST.out.at1 rfl rfl rfl pl_int rfl ?_)
    | ((with_reducible refine Step.gate_load (t := 4) rfl ?_); refine Step.load ST.out.at1 rfl rfl rfl pl_bool rfl ?_)
    | ((with_reducible refine Step.gate_load (t := 22) rfl ?_); refine Step.loadG ST.out.at1 rfl rfl rfl pl_u64 rfl ?_)
    | ((with_reducible refine Step.gate_load (t := 3) rfl ?_); refine Step.loadG ST.out.at1 rfl rfl rfl pl_int rfl ?_)
    | ((with_reducible refine Step.gate_load (t := 4) rfl ?_); refine Step.loadG ST.out.at1 rfl rfl rfl pl_bool rfl ?_)
    | ((with_reducible refine Step.gate_load (t := 22) rfl ?_); refine Step.load ST.out.at2 rfl rfl rfl pl_u64 (hv_ok _ (by decide)) ?_; simp only [hv_x0, hv_pc, hv_user, hv_on, hv_spie, hv_spp, hv_sum, hv_mxr, hv_rsv, hv_stvec, hv_sscr, hv_sepc, hv_scause, hv_stval, hv_sie, hv_sip, hv_satp, hv_resv])
    | ((with_reducible refine Step.gate_load (t := 4) rfl ?_); refine Step.load ST.out.at2 rfl rfl rfl pl_bool (hv_ok _ (by decide)) ?_; simp only [hv_x0, hv_pc, hv_user, hv_on, hv_spie, hv_spp, hv_sum, hv_mxr, hv_rsv, hv_stvec, hv_sscr, hv_sepc, hv_scause, hv_stval, hv_sie, hv_sip, hv_satp, hv_resv])
    | ((with_reducible refine Step.gate_store (t := 22) rfl ?_); refine Step.store ST.out.at2 rfl rfl rfl rfl rfl pl_u64 rfl rfl ?_; intro w3 nb m; simp [go_sem, set_x0, set_pc, set_user, set_on, set_spie, set_spp, set_sum, set_mxr, set_rsv, set_stvec, set_sscr, set_sepc, set_scause, set_stval, set_sie, set_sip, set_satp, set_resv] at nb; replace ST := Lib.hid (ST.out.set2 nb m); clear nb m)
    | ((with_reducible refine Step.gate_store (t := 4) rfl ?_); refine Step.store ST.out.at2 rfl rfl rfl rfl rfl pl_bool rfl rfl ?_; intro w3 nb m; simp [go_sem, set_x0, set_pc, set_user, set_on, set_spie, set_spp, set_sum, set_mxr, set_rsv, set_stvec, set_sscr, set_sepc, set_scause, set_stval, set_sie, set_sip, set_satp, set_resv] at nb; replace ST := Lib.hid (ST.out.set2 nb m); clear nb m)
    | ((with_reducible refine Step.gate_store (t := 25) rfl ?_); refine Step.storeAll ST.out.at2 rfl rfl rfl rfl rfl (size_hart _) rfl (hc_all _) ?_; intro w3 nb m; replace ST := Lib.hid (ST.out.set2 nb m); clear nb m)
    | ((with_reducible refine Step.gate_load (t := 25) rfl ?_); refine Step.loadAll ST.out.at2 rfl rfl rfl Try.underlying25 rfl (size_hart _) ?_)
    | ((with_reducible refine Step.gate_store (t := 25) rfl ?_); refine Step.storeAll ST.out.at0 rfl rfl rfl rfl rfl (size_hart _) rfl (hc_all _) ?_; intro w3 nb m; replace ST := Lib.hid (ST.out.set0 nb m); clear nb m)
    | ((with_reducible refine Step.gate_load (t := 25) rfl ?_); refine Step.loadAll ST.out.at0 rfl rfl rfl Try.underlying25 rfl (size_hart _) ?_))
  all_goals (refine bodyPost_ret (results_row rfl _ _ _ _ _ _ rfl ST.out.at0 Try.underlying25 rfl (size_hart _)) rfl ⟨rfl, ST.out.below⟩)
set_option maxHeartbeats 4000000 in
theorem finish_hi (h : Hrt) (hf : Fit h) (sg : Bool) (sz rg ln va vl v : Int) (hl : 1 ≤ rg) (hh : ¬ rg ≤ 31) (w : World) : Calls Try.prog 10 #[.agg (hc h), .agg #[.bool false, .bool sg, .int .i64 sz, .int .i64 rg, .int .i64 ln, .int .u64 va, .int .u64 vl], .int .u64 v] w fun e w' => e = .returned (.agg (hc (ord (finP (ord h) ln)))) ∧ Below w.heap.size w w' := by
  have e1 : (rg ≥ 1) = True := eq_true hl
  have e2 : (rg ≤ 31) = False := eq_false hh
  have T0 := Lib.hid (morder_any h hf)
  have T1 := Lib.hid (morder_any (finP (ord h) ln) (finP_fit (ord_fit hf) ln))
  clear hf
  generalize ord (finP (ord h) ln) = r at *
  dsimp only [finP] at T1
  generalize ord h = h2 at *
  go_enter Try.func10, Try.ntmps10
  have ST := Lib.hid (Kn.nil (S := Step.Nil) (W := w))
  go_wp2_with (first
    | (go_at_call 14; (with_reducible refine (T0.out _).mono ?_); rintro e w' ⟨rfl, hb⟩; replace ST := Lib.hid (ST.out.call hb); clear hb)
    | (go_at_call 14; (with_reducible refine (T1.out _).mono ?_); rintro e w' ⟨rfl, hb⟩; replace ST := Lib.hid (ST.out.call hb); clear hb)
    | ((with_reducible refine Step.gate_box (t := 25) rfl ?_); refine Step.fresh (cs := hc h) (T := 25) rfl ?hr ?_; (case hr => first | (go_simp; done) | (go_simp; rfl)); intro g1 w1 b hg hb; replace ST := Lib.hid (ST.out.made b hg hb); clear b hb; clear hg)
    | ((with_reducible refine Step.gate_box (t := 30) rfl ?_); refine Step.fresh (cs := #[.bool false, .bool sg, .int .i64 sz, .int .i64 rg, .int .i64 ln, .int .u64 va, .int .u64 vl]) (T := 30) rfl ?hr ?_; (case hr => first | (go_simp; done) | (go_simp; rfl)); intro g2 w1 b hg hb; replace ST := Lib.hid (ST.out.made b hg hb); clear b hb; clear hg)
    | ((with_reducible refine Step.gate_alloc (t := 25) rfl ?_); refine Step.freshAlloc rfl rfl (alloc_agg zero_hart) ?_; intro g3 w2 b hg hb; replace ST := Lib.hid (ST.out.made b hg hb); clear b hb; clear hg)
    | ((with_reducible refine Step.gate_load (t := 22) rfl ?_); refine Step.load ST.out.at1 rfl rfl rfl pl_u64 rfl ?_)
    | ((with_reducible refine Step.gate_load (t := 3) rfl ?_); refine Step.load ST.out.at1 rfl rfl rfl pl_int rfl ?_)
    | ((with_reducible refine Step.gate_load (t := 4) rfl ?_); refine Step.load ST.out.at1 rfl rfl rfl pl_bool rfl ?_)
    | ((with_reducible refine Step.gate_load (t := 22) rfl ?_); refine Step.loadG ST.out.at1 rfl rfl rfl pl_u64 rfl ?_)
    | ((with_reducible refine Step.gate_load (t := 3) rfl ?_); refine Step.loadG ST.out.at1 rfl rfl rfl pl_int rfl ?_)
    | ((with_reducible refine Step.gate_load (t := 4) rfl ?_); refine Step.loadG ST.out.at1 rfl rfl rfl pl_bool rfl ?_)
    | ((with_reducible refine Step.gate_load (t := 22) rfl ?_); refine Step.load ST.out.at2 rfl rfl rfl pl_u64 (hv_ok _ (by decide)) ?_; simp only [hv_x0, hv_pc, hv_user, hv_on, hv_spie, hv_spp, hv_sum, hv_mxr, hv_rsv, hv_stvec, hv_sscr, hv_sepc, hv_scause, hv_stval, hv_sie, hv_sip, hv_satp, hv_resv])
    | ((with_reducible refine Step.gate_load (t := 4) rfl ?_); refine Step.load ST.out.at2 rfl rfl rfl pl_bool (hv_ok _ (by decide)) ?_; simp only [hv_x0, hv_pc, hv_user, hv_on, hv_spie, hv_spp, hv_sum, hv_mxr, hv_rsv, hv_stvec, hv_sscr, hv_sepc, hv_scause, hv_stval, hv_sie, hv_sip, hv_satp, hv_resv])
    | ((with_reducible refine Step.gate_store (t := 22) rfl ?_); refine Step.store ST.out.at2 rfl rfl rfl rfl rfl pl_u64 rfl rfl ?_; intro w3 nb m; simp [go_sem, set_x0, set_pc, set_user, set_on, set_spie, set_spp, set_sum, set_mxr, set_rsv, set_stvec, set_sscr, set_sepc, set_scause, set_stval, set_sie, set_sip, set_satp, set_resv] at nb; replace ST := Lib.hid (ST.out.set2 nb m); clear nb m)
    | ((with_reducible refine Step.gate_store (t := 4) rfl ?_); refine Step.store ST.out.at2 rfl rfl rfl rfl rfl pl_bool rfl rfl ?_; intro w3 nb m; simp [go_sem, set_x0, set_pc, set_user, set_on, set_spie, set_spp, set_sum, set_mxr, set_rsv, set_stvec, set_sscr, set_sepc, set_scause, set_stval, set_sie, set_sip, set_satp, set_resv] at nb; replace ST := Lib.hid (ST.out.set2 nb m); clear nb m)
    | ((with_reducible refine Step.gate_store (t := 25) rfl ?_); refine Step.storeAll ST.out.at2 rfl rfl rfl rfl rfl (size_hart _) rfl (hc_all _) ?_; intro w3 nb m; replace ST := Lib.hid (ST.out.set2 nb m); clear nb m)
    | ((with_reducible refine Step.gate_load (t := 25) rfl ?_); refine Step.loadAll ST.out.at2 rfl rfl rfl Try.underlying25 rfl (size_hart _) ?_)
    | ((with_reducible refine Step.gate_store (t := 25) rfl ?_); refine Step.storeAll ST.out.at0 rfl rfl rfl rfl rfl (size_hart _) rfl (hc_all _) ?_; intro w3 nb m; replace ST := Lib.hid (ST.out.set0 nb m); clear nb m)
    | ((with_reducible refine Step.gate_load (t := 25) rfl ?_); refine Step.loadAll ST.out.at0 rfl rfl rfl Try.underlying25 rfl (size_hart _) ?_))
  all_goals (refine bodyPost_ret (results_row rfl _ _ _ _ _ _ rfl ST.out.at0 Try.underlying25 rfl (size_hart _)) rfl ⟨rfl, ST.out.below⟩)
set_option maxHeartbeats 4000000 in
theorem finish_ld (h : Hrt) (hf : Fit h) {n : Nat} (sg : Bool) (sz ln va vl v : Int) (hv : U64 v) (h1 : 1 ≤ n) (hn : n < 32) (w : World) : Calls Try.prog 10 #[.agg (hc h), .agg #[.bool false, .bool sg, .int .i64 sz, .int .i64 (n : Nat), .int .i64 ln, .int .u64 va, .int .u64 vl], .int .u64 v] w fun e w' => e = .returned (.agg (hc (ord (finX (finP (ord h) ln) n (extV v sz sg))))) ∧ Below w.heap.size w w' := by
  have e1 : ((n : Int) ≥ 1) = True := eq_true (by omega)
  have e2 : ((n : Int) ≤ 31) = True := eq_true (by omega)
  have TE := Lib.hid (extend_any hv sz sg)
  have T0 := Lib.hid (morder_any h hf)
  have T1 := Lib.hid (morder_any (finX (finP (ord h) ln) n (extV v sz sg)) (finX_fit (finP_fit (ord_fit hf) ln) n (extV_w hv sz sg)))
  clear hf hv
  generalize ord (finX (finP (ord h) ln) n (extV v sz sg)) = r at *
  dsimp only [finP, finX] at T1
  generalize ord h = h2 at *
  generalize extV v sz sg = u at *
  go_enter Try.func10, Try.ntmps10
  have ST := Lib.hid (Kn.nil (S := Step.Nil) (W := w))
  go_wp2_with (first
    | ((with_reducible refine Sq.region (id := 4) (I := fun X => Kn _ _ X _) ?hm1 9 ST.out.drew ?hp1 ?hs1); (case hm1 => rfl); (case hp1 => kernel_rfl); intro ops K hops hK; clear hops; dsimp only [List.take]; (repeat (first | (refine Sq.seq_move rfl rfl ?_; simp only [Act.put, Act.eval, Array.getD_eq_getD_getElem?, List.getElem?_toArray, List.getElem?_cons_zero, List.getElem?_cons_succ, Option.getD_some, List.setIfInBounds_toArray, List.set_cons_zero, List.set_cons_succ]) | (refine Sq.seq_check rfl rfl rfl ?_; simp only [Act.put, Act.eval, Array.getD_eq_getD_getElem?, List.getElem?_toArray, List.getElem?_cons_zero, List.getElem?_cons_succ, Option.getD_some, List.setIfInBounds_toArray, List.set_cons_zero, List.set_cons_succ]) | (refine Sq.seq_load (t := 22) (fun X hX => hX.at1) (Sq.wanted_none rfl) rfl rfl pl_u64 rfl ?_; simp only [Act.put, Act.eval, Array.getD_eq_getD_getElem?, List.getElem?_toArray, List.getElem?_cons_zero, List.getElem?_cons_succ, Option.getD_some, List.setIfInBounds_toArray, List.set_cons_zero, List.set_cons_succ]) | (refine Sq.seq_load (t := 3) (fun X hX => hX.at1) (Sq.wanted_none rfl) rfl rfl pl_int rfl ?_; simp only [Act.put, Act.eval, Array.getD_eq_getD_getElem?, List.getElem?_toArray, List.getElem?_cons_zero, List.getElem?_cons_succ, Option.getD_some, List.setIfInBounds_toArray, List.set_cons_zero, List.set_cons_succ]) | (refine Sq.seq_load (t := 4) (fun X hX => hX.at1) (Sq.wanted_none rfl) rfl rfl pl_bool rfl ?_; simp only [Act.put, Act.eval, Array.getD_eq_getD_getElem?, List.getElem?_toArray, List.getElem?_cons_zero, List.getElem?_cons_succ, Option.getD_some, List.setIfInBounds_toArray, List.set_cons_zero, List.set_cons_succ]) | (refine Sq.seq_call 17 rfl (Sq.wanted_none rfl) (fun X => ?_) (fun X hX => (TE.out X).mono fun e w' h => ⟨h.1, hX.call h.2⟩) ?_; (focus (first | (go_simp; done) | (go_simp; rfl))); simp only [Act.put, Act.eval, Array.getD_eq_getD_getElem?, List.getElem?_toArray, List.getElem?_cons_zero, List.getElem?_cons_succ, Option.getD_some, List.setIfInBounds_toArray, List.set_cons_zero, List.set_cons_succ]) | (refine' Sq.seq_pure rfl (fun X => _) _; rotate_left; (first | (go_simp; done) | (go_simp; rfl)); simp only [Act.put, Act.eval, Array.getD_eq_getD_getElem?, List.getElem?_toArray, List.getElem?_cons_zero, List.getElem?_cons_succ, Option.getD_some, List.setIfInBounds_toArray, List.set_cons_zero, List.set_cons_succ]))); refine Sq.seq_nil ?_; refine hK.out _ fun w1 hk => ?_; clear hK; replace ST := Lib.hid hk; clear hk; dsimp only [List.drop])
    | ((with_reducible refine Step.gate_store (t := 22) rfl ?_); refine Step.store ST.out.at2 rfl rfl rfl rfl rfl pl_u64 rfl (nat_blt (by rw [hc_size]; omega)) ?_; intro w3 nb m; simp only [Act.eval, Array.getD_eq_getD_getElem?, List.getElem?_toArray, List.getElem?_cons_zero, List.getElem?_cons_succ, Option.getD_some] at nb; rw [set_x _ hn] at nb; replace ST := Lib.hid (ST.out.set2 nb m); clear nb m)
    | (go_at_call 14; (with_reducible refine (T0.out _).mono ?_); rintro e w' ⟨rfl, hb⟩; replace ST := Lib.hid (ST.out.call hb); clear hb)
    | (go_at_call 14; (with_reducible refine (T1.out _).mono ?_); rintro e w' ⟨rfl, hb⟩; replace ST := Lib.hid (ST.out.call hb); clear hb)
    | ((with_reducible refine Step.gate_box (t := 25) rfl ?_); refine Step.fresh (cs := hc h) (T := 25) rfl ?hr ?_; (case hr => first | (go_simp; done) | (go_simp; rfl)); intro g1 w1 b hg hb; replace ST := Lib.hid (ST.out.made b hg hb); clear b hb; clear hg)
    | ((with_reducible refine Step.gate_box (t := 30) rfl ?_); refine Step.fresh (cs := #[.bool false, .bool sg, .int .i64 sz, .int .i64 (n : Nat), .int .i64 ln, .int .u64 va, .int .u64 vl]) (T := 30) rfl ?hr ?_; (case hr => first | (go_simp; done) | (go_simp; rfl)); intro g2 w1 b hg hb; replace ST := Lib.hid (ST.out.made b hg hb); clear b hb; clear hg)
    | ((with_reducible refine Step.gate_alloc (t := 25) rfl ?_); refine Step.freshAlloc rfl rfl (alloc_agg zero_hart) ?_; intro g3 w2 b hg hb; replace ST := Lib.hid (ST.out.made b hg hb); clear b hb; clear hg)
    | ((with_reducible refine Step.gate_load (t := 22) rfl ?_); refine Step.load ST.out.at1 rfl rfl rfl pl_u64 rfl ?_)
    | ((with_reducible refine Step.gate_load (t := 3) rfl ?_); refine Step.load ST.out.at1 rfl rfl rfl pl_int rfl ?_)
    | ((with_reducible refine Step.gate_load (t := 4) rfl ?_); refine Step.load ST.out.at1 rfl rfl rfl pl_bool rfl ?_)
    | ((with_reducible refine Step.gate_load (t := 22) rfl ?_); refine Step.loadG ST.out.at1 rfl rfl rfl pl_u64 rfl ?_)
    | ((with_reducible refine Step.gate_load (t := 3) rfl ?_); refine Step.loadG ST.out.at1 rfl rfl rfl pl_int rfl ?_)
    | ((with_reducible refine Step.gate_load (t := 4) rfl ?_); refine Step.loadG ST.out.at1 rfl rfl rfl pl_bool rfl ?_)
    | ((with_reducible refine Step.gate_load (t := 22) rfl ?_); refine Step.load ST.out.at2 rfl rfl rfl pl_u64 (hv_ok _ (by decide)) ?_; simp only [hv_x0, hv_pc, hv_user, hv_on, hv_spie, hv_spp, hv_sum, hv_mxr, hv_rsv, hv_stvec, hv_sscr, hv_sepc, hv_scause, hv_stval, hv_sie, hv_sip, hv_satp, hv_resv])
    | ((with_reducible refine Step.gate_load (t := 4) rfl ?_); refine Step.load ST.out.at2 rfl rfl rfl pl_bool (hv_ok _ (by decide)) ?_; simp only [hv_x0, hv_pc, hv_user, hv_on, hv_spie, hv_spp, hv_sum, hv_mxr, hv_rsv, hv_stvec, hv_sscr, hv_sepc, hv_scause, hv_stval, hv_sie, hv_sip, hv_satp, hv_resv])
    | ((with_reducible refine Step.gate_store (t := 22) rfl ?_); refine Step.store ST.out.at2 rfl rfl rfl rfl rfl pl_u64 rfl rfl ?_; intro w3 nb m; simp [go_sem, set_x0, set_pc, set_user, set_on, set_spie, set_spp, set_sum, set_mxr, set_rsv, set_stvec, set_sscr, set_sepc, set_scause, set_stval, set_sie, set_sip, set_satp, set_resv] at nb; replace ST := Lib.hid (ST.out.set2 nb m); clear nb m)
    | ((with_reducible refine Step.gate_store (t := 4) rfl ?_); refine Step.store ST.out.at2 rfl rfl rfl rfl rfl pl_bool rfl rfl ?_; intro w3 nb m; simp [go_sem, set_x0, set_pc, set_user, set_on, set_spie, set_spp, set_sum, set_mxr, set_rsv, set_stvec, set_sscr, set_sepc, set_scause, set_stval, set_sie, set_sip, set_satp, set_resv] at nb; replace ST := Lib.hid (ST.out.set2 nb m); clear nb m)
    | ((with_reducible refine Step.gate_store (t := 25) rfl ?_); refine Step.storeAll ST.out.at2 rfl rfl rfl rfl rfl (size_hart _) rfl (hc_all _) ?_; intro w3 nb m; replace ST := Lib.hid (ST.out.set2 nb m); clear nb m)
    | ((with_reducible refine Step.gate_load (t := 25) rfl ?_); refine Step.loadAll ST.out.at2 rfl rfl rfl Try.underlying25 rfl (size_hart _) ?_)
    | ((with_reducible refine Step.gate_store (t := 25) rfl ?_); refine Step.storeAll ST.out.at0 rfl rfl rfl rfl rfl (size_hart _) rfl (hc_all _) ?_; intro w3 nb m; replace ST := Lib.hid (ST.out.set0 nb m); clear nb m)
    | ((with_reducible refine Step.gate_load (t := 25) rfl ?_); refine Step.loadAll ST.out.at0 rfl rfl rfl Try.underlying25 rfl (size_hart _) ?_))
  all_goals (refine bodyPost_ret (results_row rfl _ _ _ _ _ _ rfl ST.out.at0 Try.underlying25 rfl (size_hart _)) rfl ⟨rfl, ST.out.below⟩)
theorem finish_any (h : Hrt) (hf : Fit h) (a : Acc) {v : Int} (hv : U64 v) (w : World) : Calls Try.prog 10 #[.agg (hc h), .agg a.cells, .int .u64 v] w fun e w' => e = .returned (.agg (hc (fin h a v))) ∧ Below w.heap.size w w' := by
  obtain ⟨st, sg, sz, rg, ln, va, vl⟩ := a
  cases st with
  | true => rw [show fin h ⟨true, sg, sz, rg, ln, va, vl⟩ v = ord (finP (ord h) ln) from by simp [fin]]; exact finish_st h hf sg sz rg ln va vl v w
  | false =>
    by_cases h1 : 1 ≤ rg
    · by_cases h2 : rg ≤ 31
      · obtain ⟨n, rfl⟩ := Int.eq_ofNat_of_zero_le (show 0 ≤ rg by omega)
        rw [show fin h ⟨false, sg, sz, n, ln, va, vl⟩ v = ord (finX (finP (ord h) ln) n (extV v sz sg)) from by simp [fin, h1, h2]]
        exact finish_ld h hf sg sz ln va vl v hv (by omega) (by omega) w
      · rw [show fin h ⟨false, sg, sz, rg, ln, va, vl⟩ v = ord (finP (ord h) ln) from by simp [fin, h2]]; exact finish_hi h hf sg sz rg ln va vl v h1 h2 w
    · rw [show fin h ⟨false, sg, sz, rg, ln, va, vl⟩ v = ord (finP (ord h) ln) from by simp [fin, h1]]; exact finish_lo h hf sg sz rg ln va vl v h1 w
set_option maxHeartbeats 4000000 in
theorem rfinish_st (h : Hrt) (hf : Fit h) (sg : Bool) (sz rg ln va vl v : Int) (w : World) : Calls Try.prog 11 #[.agg (hc h), .agg #[.bool true, .bool sg, .int .i64 sz, .int .i64 rg, .int .i64 ln, .int .u64 va, .int .u64 vl], .int .u64 v] w fun e w' => e = .returned (.agg (hc (ord (finP (ord h) ln)))) ∧ Below w.heap.size w w' := by
  have T0 := Lib.hid (rOrder_any h hf)
  have T1 := Lib.hid (rOrder_any (finP (ord h) ln) (finP_fit (ord_fit hf) ln))
  clear hf
  generalize ord (finP (ord h) ln) = r at *
  dsimp only [finP] at T1
  generalize ord h = h2 at *
  go_enter Try.func11, Try.ntmps11
  have ST := Lib.hid (Kn.nil (S := Step.Nil) (W := w))
  go_wp2_with (first
    | (go_at_call 18; (with_reducible refine (T0.out _).mono ?_); rintro e w' ⟨rfl, hb⟩; replace ST := Lib.hid (ST.out.call hb); clear hb)
    | (go_at_call 18; (with_reducible refine (T1.out _).mono ?_); rintro e w' ⟨rfl, hb⟩; replace ST := Lib.hid (ST.out.call hb); clear hb)
    | ((with_reducible refine Step.gate_box (t := 25) rfl ?_); refine Step.fresh (cs := hc h) (T := 25) rfl ?hr ?_; (case hr => first | (go_simp; done) | (go_simp; rfl)); intro g1 w1 b hg hb; replace ST := Lib.hid (ST.out.made b hg hb); clear b hb; clear hg)
    | ((with_reducible refine Step.gate_box (t := 30) rfl ?_); refine Step.fresh (cs := #[.bool true, .bool sg, .int .i64 sz, .int .i64 rg, .int .i64 ln, .int .u64 va, .int .u64 vl]) (T := 30) rfl ?hr ?_; (case hr => first | (go_simp; done) | (go_simp; rfl)); intro g2 w1 b hg hb; replace ST := Lib.hid (ST.out.made b hg hb); clear b hb; clear hg)
    | ((with_reducible refine Step.gate_alloc (t := 25) rfl ?_); refine Step.freshAlloc rfl rfl (alloc_agg zero_hart) ?_; intro g3 w2 b hg hb; replace ST := Lib.hid (ST.out.made b hg hb); clear b hb; clear hg)
    | ((with_reducible refine Step.gate_load (t := 22) rfl ?_); refine Step.load ST.out.at1 rfl rfl rfl pl_u64 rfl ?_)
    | ((with_reducible refine Step.gate_load (t := 3) rfl ?_); refine Step.load ST.out.at1 rfl rfl rfl pl_int rfl ?_)
    | ((with_reducible refine Step.gate_load (t := 4) rfl ?_); refine Step.load ST.out.at1 rfl rfl rfl pl_bool rfl ?_)
    | ((with_reducible refine Step.gate_load (t := 22) rfl ?_); refine Step.loadG ST.out.at1 rfl rfl rfl pl_u64 rfl ?_)
    | ((with_reducible refine Step.gate_load (t := 3) rfl ?_); refine Step.loadG ST.out.at1 rfl rfl rfl pl_int rfl ?_)
    | ((with_reducible refine Step.gate_load (t := 4) rfl ?_); refine Step.loadG ST.out.at1 rfl rfl rfl pl_bool rfl ?_)
    | ((with_reducible refine Step.gate_load (t := 22) rfl ?_); refine Step.load ST.out.at2 rfl rfl rfl pl_u64 (hv_ok _ (by decide)) ?_; simp only [hv_x0, hv_pc, hv_user, hv_on, hv_spie, hv_spp, hv_sum, hv_mxr, hv_rsv, hv_stvec, hv_sscr, hv_sepc, hv_scause, hv_stval, hv_sie, hv_sip, hv_satp, hv_resv])
    | ((with_reducible refine Step.gate_load (t := 4) rfl ?_); refine Step.load ST.out.at2 rfl rfl rfl pl_bool (hv_ok _ (by decide)) ?_; simp only [hv_x0, hv_pc, hv_user, hv_on, hv_spie, hv_spp, hv_sum, hv_mxr, hv_rsv, hv_stvec, hv_sscr, hv_sepc, hv_scause, hv_stval, hv_sie, hv_sip, hv_satp, hv_resv])
    | ((with_reducible refine Step.gate_store (t := 22) rfl ?_); refine Step.store ST.out.at2 rfl rfl rfl rfl rfl pl_u64 rfl rfl ?_; intro w3 nb m; simp [go_sem, set_x0, set_pc, set_user, set_on, set_spie, set_spp, set_sum, set_mxr, set_rsv, set_stvec, set_sscr, set_sepc, set_scause, set_stval, set_sie, set_sip, set_satp, set_resv] at nb; replace ST := Lib.hid (ST.out.set2 nb m); clear nb m)
    | ((with_reducible refine Step.gate_store (t := 4) rfl ?_); refine Step.store ST.out.at2 rfl rfl rfl rfl rfl pl_bool rfl rfl ?_; intro w3 nb m; simp [go_sem, set_x0, set_pc, set_user, set_on, set_spie, set_spp, set_sum, set_mxr, set_rsv, set_stvec, set_sscr, set_sepc, set_scause, set_stval, set_sie, set_sip, set_satp, set_resv] at nb; replace ST := Lib.hid (ST.out.set2 nb m); clear nb m)
    | ((with_reducible refine Step.gate_store (t := 25) rfl ?_); refine Step.storeAll ST.out.at2 rfl rfl rfl rfl rfl (size_hart _) rfl (hc_all _) ?_; intro w3 nb m; replace ST := Lib.hid (ST.out.set2 nb m); clear nb m)
    | ((with_reducible refine Step.gate_load (t := 25) rfl ?_); refine Step.loadAll ST.out.at2 rfl rfl rfl Try.underlying25 rfl (size_hart _) ?_)
    | ((with_reducible refine Step.gate_store (t := 25) rfl ?_); refine Step.storeAll ST.out.at0 rfl rfl rfl rfl rfl (size_hart _) rfl (hc_all _) ?_; intro w3 nb m; replace ST := Lib.hid (ST.out.set0 nb m); clear nb m)
    | ((with_reducible refine Step.gate_load (t := 25) rfl ?_); refine Step.loadAll ST.out.at0 rfl rfl rfl Try.underlying25 rfl (size_hart _) ?_))
  all_goals (refine bodyPost_ret (results_row rfl _ _ _ _ _ _ rfl ST.out.at0 Try.underlying25 rfl (size_hart _)) rfl ⟨rfl, ST.out.below⟩)
set_option maxHeartbeats 4000000 in
theorem rfinish_lo (h : Hrt) (hf : Fit h) (sg : Bool) (sz rg ln va vl v : Int) (hl : ¬ 1 ≤ rg) (w : World) : Calls Try.prog 11 #[.agg (hc h), .agg #[.bool false, .bool sg, .int .i64 sz, .int .i64 rg, .int .i64 ln, .int .u64 va, .int .u64 vl], .int .u64 v] w fun e w' => e = .returned (.agg (hc (ord (finP (ord h) ln)))) ∧ Below w.heap.size w w' := by
  have e1 : (rg ≥ 1) = False := eq_false hl
  have T0 := Lib.hid (rOrder_any h hf)
  have T1 := Lib.hid (rOrder_any (finP (ord h) ln) (finP_fit (ord_fit hf) ln))
  clear hf
  generalize ord (finP (ord h) ln) = r at *
  dsimp only [finP] at T1
  generalize ord h = h2 at *
  go_enter Try.func11, Try.ntmps11
  have ST := Lib.hid (Kn.nil (S := Step.Nil) (W := w))
  go_wp2_with (first
    | (go_at_call 18; (with_reducible refine (T0.out _).mono ?_); rintro e w' ⟨rfl, hb⟩; replace ST := Lib.hid (ST.out.call hb); clear hb)
    | (go_at_call 18; (with_reducible refine (T1.out _).mono ?_); rintro e w' ⟨rfl, hb⟩; replace ST := Lib.hid (ST.out.call hb); clear hb)
    | ((with_reducible refine Step.gate_box (t := 25) rfl ?_); refine Step.fresh (cs := hc h) (T := 25) rfl ?hr ?_; (case hr => first | (go_simp; done) | (go_simp; rfl)); intro g1 w1 b hg hb; replace ST := Lib.hid (ST.out.made b hg hb); clear b hb; clear hg)
    | ((with_reducible refine Step.gate_box (t := 30) rfl ?_); refine Step.fresh (cs := #[.bool false, .bool sg, .int .i64 sz, .int .i64 rg, .int .i64 ln, .int .u64 va, .int .u64 vl]) (T := 30) rfl ?hr ?_; (case hr => first | (go_simp; done) | (go_simp; rfl)); intro g2 w1 b hg hb; replace ST := Lib.hid (ST.out.made b hg hb); clear b hb; clear hg)
    | ((with_reducible refine Step.gate_alloc (t := 25) rfl ?_); refine Step.freshAlloc rfl rfl (alloc_agg zero_hart) ?_; intro g3 w2 b hg hb; replace ST := Lib.hid (ST.out.made b hg hb); clear b hb; clear hg)
    | ((with_reducible refine Step.gate_load (t := 22) rfl ?_); refine Step.load ST.out.at1 rfl rfl rfl pl_u64 rfl ?_)
    | ((with_reducible refine Step.gate_load (t := 3) rfl ?_); refine Step.load ST.out.at1 rfl rfl rfl pl_int rfl ?_)
    | ((with_reducible refine Step.gate_load (t := 4) rfl ?_); refine Step.load ST.out.at1 rfl rfl rfl pl_bool rfl ?_)
    | ((with_reducible refine Step.gate_load (t := 22) rfl ?_); refine Step.loadG ST.out.at1 rfl rfl rfl pl_u64 rfl ?_)
    | ((with_reducible refine Step.gate_load (t := 3) rfl ?_); refine Step.loadG ST.out.at1 rfl rfl rfl pl_int rfl ?_)
    | ((with_reducible refine Step.gate_load (t := 4) rfl ?_); refine Step.loadG ST.out.at1 rfl rfl rfl pl_bool rfl ?_)
    | ((with_reducible refine Step.gate_load (t := 22) rfl ?_); refine Step.load ST.out.at2 rfl rfl rfl pl_u64 (hv_ok _ (by decide)) ?_; simp only [hv_x0, hv_pc, hv_user, hv_on, hv_spie, hv_spp, hv_sum, hv_mxr, hv_rsv, hv_stvec, hv_sscr, hv_sepc, hv_scause, hv_stval, hv_sie, hv_sip, hv_satp, hv_resv])
    | ((with_reducible refine Step.gate_load (t := 4) rfl ?_); refine Step.load ST.out.at2 rfl rfl rfl pl_bool (hv_ok _ (by decide)) ?_; simp only [hv_x0, hv_pc, hv_user, hv_on, hv_spie, hv_spp, hv_sum, hv_mxr, hv_rsv, hv_stvec, hv_sscr, hv_sepc, hv_scause, hv_stval, hv_sie, hv_sip, hv_satp, hv_resv])
    | ((with_reducible refine Step.gate_store (t := 22) rfl ?_); refine Step.store ST.out.at2 rfl rfl rfl rfl rfl pl_u64 rfl rfl ?_; intro w3 nb m; simp [go_sem, set_x0, set_pc, set_user, set_on, set_spie, set_spp, set_sum, set_mxr, set_rsv, set_stvec, set_sscr, set_sepc, set_scause, set_stval, set_sie, set_sip, set_satp, set_resv] at nb; replace ST := Lib.hid (ST.out.set2 nb m); clear nb m)
    | ((with_reducible refine Step.gate_store (t := 4) rfl ?_); refine Step.store ST.out.at2 rfl rfl rfl rfl rfl pl_bool rfl rfl ?_; intro w3 nb m; simp [go_sem, set_x0, set_pc, set_user, set_on, set_spie, set_spp, set_sum, set_mxr, set_rsv, set_stvec, set_sscr, set_sepc, set_scause, set_stval, set_sie, set_sip, set_satp, set_resv] at nb; replace ST := Lib.hid (ST.out.set2 nb m); clear nb m)
    | ((with_reducible refine Step.gate_store (t := 25) rfl ?_); refine Step.storeAll ST.out.at2 rfl rfl rfl rfl rfl (size_hart _) rfl (hc_all _) ?_; intro w3 nb m; replace ST := Lib.hid (ST.out.set2 nb m); clear nb m)
    | ((with_reducible refine Step.gate_load (t := 25) rfl ?_); refine Step.loadAll ST.out.at2 rfl rfl rfl Try.underlying25 rfl (size_hart _) ?_)
    | ((with_reducible refine Step.gate_store (t := 25) rfl ?_); refine Step.storeAll ST.out.at0 rfl rfl rfl rfl rfl (size_hart _) rfl (hc_all _) ?_; intro w3 nb m; replace ST := Lib.hid (ST.out.set0 nb m); clear nb m)
    | ((with_reducible refine Step.gate_load (t := 25) rfl ?_); refine Step.loadAll ST.out.at0 rfl rfl rfl Try.underlying25 rfl (size_hart _) ?_))
  all_goals (refine bodyPost_ret (results_row rfl _ _ _ _ _ _ rfl ST.out.at0 Try.underlying25 rfl (size_hart _)) rfl ⟨rfl, ST.out.below⟩)
set_option maxHeartbeats 4000000 in
theorem rfinish_hi (h : Hrt) (hf : Fit h) (sg : Bool) (sz rg ln va vl v : Int) (hl : 1 ≤ rg) (hh : ¬ rg ≤ 31) (w : World) : Calls Try.prog 11 #[.agg (hc h), .agg #[.bool false, .bool sg, .int .i64 sz, .int .i64 rg, .int .i64 ln, .int .u64 va, .int .u64 vl], .int .u64 v] w fun e w' => e = .returned (.agg (hc (ord (finP (ord h) ln)))) ∧ Below w.heap.size w w' := by
  have e1 : (rg ≥ 1) = True := eq_true hl
  have e2 : (rg ≤ 31) = False := eq_false hh
  have T0 := Lib.hid (rOrder_any h hf)
  have T1 := Lib.hid (rOrder_any (finP (ord h) ln) (finP_fit (ord_fit hf) ln))
  clear hf
  generalize ord (finP (ord h) ln) = r at *
  dsimp only [finP] at T1
  generalize ord h = h2 at *
  go_enter Try.func11, Try.ntmps11
  have ST := Lib.hid (Kn.nil (S := Step.Nil) (W := w))
  go_wp2_with (first
    | (go_at_call 18; (with_reducible refine (T0.out _).mono ?_); rintro e w' ⟨rfl, hb⟩; replace ST := Lib.hid (ST.out.call hb); clear hb)
    | (go_at_call 18; (with_reducible refine (T1.out _).mono ?_); rintro e w' ⟨rfl, hb⟩; replace ST := Lib.hid (ST.out.call hb); clear hb)
    | ((with_reducible refine Step.gate_box (t := 25) rfl ?_); refine Step.fresh (cs := hc h) (T := 25) rfl ?hr ?_; (case hr => first | (go_simp; done) | (go_simp; rfl)); intro g1 w1 b hg hb; replace ST := Lib.hid (ST.out.made b hg hb); clear b hb; clear hg)
    | ((with_reducible refine Step.gate_box (t := 30) rfl ?_); refine Step.fresh (cs := #[.bool false, .bool sg, .int .i64 sz, .int .i64 rg, .int .i64 ln, .int .u64 va, .int .u64 vl]) (T := 30) rfl ?hr ?_; (case hr => first | (go_simp; done) | (go_simp; rfl)); intro g2 w1 b hg hb; replace ST := Lib.hid (ST.out.made b hg hb); clear b hb; clear hg)
    | ((with_reducible refine Step.gate_alloc (t := 25) rfl ?_); refine Step.freshAlloc rfl rfl (alloc_agg zero_hart) ?_; intro g3 w2 b hg hb; replace ST := Lib.hid (ST.out.made b hg hb); clear b hb; clear hg)
    | ((with_reducible refine Step.gate_load (t := 22) rfl ?_); refine Step.load ST.out.at1 rfl rfl rfl pl_u64 rfl ?_)
    | ((with_reducible refine Step.gate_load (t := 3) rfl ?_); refine Step.load ST.out.at1 rfl rfl rfl pl_int rfl ?_)
    | ((with_reducible refine Step.gate_load (t := 4) rfl ?_); refine Step.load ST.out.at1 rfl rfl rfl pl_bool rfl ?_)
    | ((with_reducible refine Step.gate_load (t := 22) rfl ?_); refine Step.loadG ST.out.at1 rfl rfl rfl pl_u64 rfl ?_)
    | ((with_reducible refine Step.gate_load (t := 3) rfl ?_); refine Step.loadG ST.out.at1 rfl rfl rfl pl_int rfl ?_)
    | ((with_reducible refine Step.gate_load (t := 4) rfl ?_); refine Step.loadG ST.out.at1 rfl rfl rfl pl_bool rfl ?_)
    | ((with_reducible refine Step.gate_load (t := 22) rfl ?_); refine Step.load ST.out.at2 rfl rfl rfl pl_u64 (hv_ok _ (by decide)) ?_; simp only [hv_x0, hv_pc, hv_user, hv_on, hv_spie, hv_spp, hv_sum, hv_mxr, hv_rsv, hv_stvec, hv_sscr, hv_sepc, hv_scause, hv_stval, hv_sie, hv_sip, hv_satp, hv_resv])
    | ((with_reducible refine Step.gate_load (t := 4) rfl ?_); refine Step.load ST.out.at2 rfl rfl rfl pl_bool (hv_ok _ (by decide)) ?_; simp only [hv_x0, hv_pc, hv_user, hv_on, hv_spie, hv_spp, hv_sum, hv_mxr, hv_rsv, hv_stvec, hv_sscr, hv_sepc, hv_scause, hv_stval, hv_sie, hv_sip, hv_satp, hv_resv])
    | ((with_reducible refine Step.gate_store (t := 22) rfl ?_); refine Step.store ST.out.at2 rfl rfl rfl rfl rfl pl_u64 rfl rfl ?_; intro w3 nb m; simp [go_sem, set_x0, set_pc, set_user, set_on, set_spie, set_spp, set_sum, set_mxr, set_rsv, set_stvec, set_sscr, set_sepc, set_scause, set_stval, set_sie, set_sip, set_satp, set_resv] at nb; replace ST := Lib.hid (ST.out.set2 nb m); clear nb m)
    | ((with_reducible refine Step.gate_store (t := 4) rfl ?_); refine Step.store ST.out.at2 rfl rfl rfl rfl rfl pl_bool rfl rfl ?_; intro w3 nb m; simp [go_sem, set_x0, set_pc, set_user, set_on, set_spie, set_spp, set_sum, set_mxr, set_rsv, set_stvec, set_sscr, set_sepc, set_scause, set_stval, set_sie, set_sip, set_satp, set_resv] at nb; replace ST := Lib.hid (ST.out.set2 nb m); clear nb m)
    | ((with_reducible refine Step.gate_store (t := 25) rfl ?_); refine Step.storeAll ST.out.at2 rfl rfl rfl rfl rfl (size_hart _) rfl (hc_all _) ?_; intro w3 nb m; replace ST := Lib.hid (ST.out.set2 nb m); clear nb m)
    | ((with_reducible refine Step.gate_load (t := 25) rfl ?_); refine Step.loadAll ST.out.at2 rfl rfl rfl Try.underlying25 rfl (size_hart _) ?_)
    | ((with_reducible refine Step.gate_store (t := 25) rfl ?_); refine Step.storeAll ST.out.at0 rfl rfl rfl rfl rfl (size_hart _) rfl (hc_all _) ?_; intro w3 nb m; replace ST := Lib.hid (ST.out.set0 nb m); clear nb m)
    | ((with_reducible refine Step.gate_load (t := 25) rfl ?_); refine Step.loadAll ST.out.at0 rfl rfl rfl Try.underlying25 rfl (size_hart _) ?_))
  all_goals (refine bodyPost_ret (results_row rfl _ _ _ _ _ _ rfl ST.out.at0 Try.underlying25 rfl (size_hart _)) rfl ⟨rfl, ST.out.below⟩)
set_option maxHeartbeats 4000000 in
theorem rfinish_ld (h : Hrt) (hf : Fit h) {n : Nat} (sg : Bool) (sz ln va vl v : Int) (hv : U64 v) (h1 : 1 ≤ n) (hn : n < 32) (w : World) : Calls Try.prog 11 #[.agg (hc h), .agg #[.bool false, .bool sg, .int .i64 sz, .int .i64 (n : Nat), .int .i64 ln, .int .u64 va, .int .u64 vl], .int .u64 v] w fun e w' => e = .returned (.agg (hc (ord (finX (finP (ord h) ln) n (extV v sz sg))))) ∧ Below w.heap.size w w' := by
  have e1 : ((n : Int) ≥ 1) = True := eq_true (by omega)
  have e2 : ((n : Int) ≤ 31) = True := eq_true (by omega)
  have TE := Lib.hid (rextend_any hv sz sg)
  have T0 := Lib.hid (rOrder_any h hf)
  have T1 := Lib.hid (rOrder_any (finX (finP (ord h) ln) n (extV v sz sg)) (finX_fit (finP_fit (ord_fit hf) ln) n (extV_w hv sz sg)))
  clear hf hv
  generalize ord (finX (finP (ord h) ln) n (extV v sz sg)) = r at *
  dsimp only [finP, finX] at T1
  generalize ord h = h2 at *
  generalize extV v sz sg = u at *
  go_enter Try.func11, Try.ntmps11
  have ST := Lib.hid (Kn.nil (S := Step.Nil) (W := w))
  go_wp2_with (first
    | ((with_reducible refine Sq.region (id := 4) (I := fun X => Kn _ _ X _) ?hm2 9 ST.out.drew ?hp2 ?hs2); (case hm2 => rfl); (case hp2 => kernel_rfl); intro ops K hops hK; clear hops; dsimp only [List.take]; (repeat (first | (refine Sq.seq_move rfl rfl ?_; simp only [Act.put, Act.eval, Array.getD_eq_getD_getElem?, List.getElem?_toArray, List.getElem?_cons_zero, List.getElem?_cons_succ, Option.getD_some, List.setIfInBounds_toArray, List.set_cons_zero, List.set_cons_succ]) | (refine Sq.seq_check rfl rfl rfl ?_; simp only [Act.put, Act.eval, Array.getD_eq_getD_getElem?, List.getElem?_toArray, List.getElem?_cons_zero, List.getElem?_cons_succ, Option.getD_some, List.setIfInBounds_toArray, List.set_cons_zero, List.set_cons_succ]) | (refine Sq.seq_load (t := 22) (fun X hX => hX.at1) (Sq.wanted_none rfl) rfl rfl pl_u64 rfl ?_; simp only [Act.put, Act.eval, Array.getD_eq_getD_getElem?, List.getElem?_toArray, List.getElem?_cons_zero, List.getElem?_cons_succ, Option.getD_some, List.setIfInBounds_toArray, List.set_cons_zero, List.set_cons_succ]) | (refine Sq.seq_load (t := 3) (fun X hX => hX.at1) (Sq.wanted_none rfl) rfl rfl pl_int rfl ?_; simp only [Act.put, Act.eval, Array.getD_eq_getD_getElem?, List.getElem?_toArray, List.getElem?_cons_zero, List.getElem?_cons_succ, Option.getD_some, List.setIfInBounds_toArray, List.set_cons_zero, List.set_cons_succ]) | (refine Sq.seq_load (t := 4) (fun X hX => hX.at1) (Sq.wanted_none rfl) rfl rfl pl_bool rfl ?_; simp only [Act.put, Act.eval, Array.getD_eq_getD_getElem?, List.getElem?_toArray, List.getElem?_cons_zero, List.getElem?_cons_succ, Option.getD_some, List.setIfInBounds_toArray, List.set_cons_zero, List.set_cons_succ]) | (refine Sq.seq_call 20 rfl (Sq.wanted_none rfl) (fun X => ?_) (fun X hX => (TE.out X).mono fun e w' h => ⟨h.1, hX.call h.2⟩) ?_; (focus (first | (go_simp; done) | (go_simp; rfl))); simp only [Act.put, Act.eval, Array.getD_eq_getD_getElem?, List.getElem?_toArray, List.getElem?_cons_zero, List.getElem?_cons_succ, Option.getD_some, List.setIfInBounds_toArray, List.set_cons_zero, List.set_cons_succ]) | (refine' Sq.seq_pure rfl (fun X => _) _; rotate_left; (first | (go_simp; done) | (go_simp; rfl)); simp only [Act.put, Act.eval, Array.getD_eq_getD_getElem?, List.getElem?_toArray, List.getElem?_cons_zero, List.getElem?_cons_succ, Option.getD_some, List.setIfInBounds_toArray, List.set_cons_zero, List.set_cons_succ]))); refine Sq.seq_nil ?_; refine hK.out _ fun w1 hk => ?_; clear hK; replace ST := Lib.hid hk; clear hk; dsimp only [List.drop])
    | ((with_reducible refine Step.gate_store (t := 22) rfl ?_); refine Step.store ST.out.at2 rfl rfl rfl rfl rfl pl_u64 rfl (nat_blt (by rw [hc_size]; omega)) ?_; intro w3 nb m; simp only [Act.eval, Array.getD_eq_getD_getElem?, List.getElem?_toArray, List.getElem?_cons_zero, List.getElem?_cons_succ, Option.getD_some] at nb; rw [set_x _ hn] at nb; replace ST := Lib.hid (ST.out.set2 nb m); clear nb m)
    | (go_at_call 18; (with_reducible refine (T0.out _).mono ?_); rintro e w' ⟨rfl, hb⟩; replace ST := Lib.hid (ST.out.call hb); clear hb)
    | (go_at_call 18; (with_reducible refine (T1.out _).mono ?_); rintro e w' ⟨rfl, hb⟩; replace ST := Lib.hid (ST.out.call hb); clear hb)
    | ((with_reducible refine Step.gate_box (t := 25) rfl ?_); refine Step.fresh (cs := hc h) (T := 25) rfl ?hr ?_; (case hr => first | (go_simp; done) | (go_simp; rfl)); intro g1 w1 b hg hb; replace ST := Lib.hid (ST.out.made b hg hb); clear b hb; clear hg)
    | ((with_reducible refine Step.gate_box (t := 30) rfl ?_); refine Step.fresh (cs := #[.bool false, .bool sg, .int .i64 sz, .int .i64 (n : Nat), .int .i64 ln, .int .u64 va, .int .u64 vl]) (T := 30) rfl ?hr ?_; (case hr => first | (go_simp; done) | (go_simp; rfl)); intro g2 w1 b hg hb; replace ST := Lib.hid (ST.out.made b hg hb); clear b hb; clear hg)
    | ((with_reducible refine Step.gate_alloc (t := 25) rfl ?_); refine Step.freshAlloc rfl rfl (alloc_agg zero_hart) ?_; intro g3 w2 b hg hb; replace ST := Lib.hid (ST.out.made b hg hb); clear b hb; clear hg)
    | ((with_reducible refine Step.gate_load (t := 22) rfl ?_); refine Step.load ST.out.at1 rfl rfl rfl pl_u64 rfl ?_)
    | ((with_reducible refine Step.gate_load (t := 3) rfl ?_); refine Step.load ST.out.at1 rfl rfl rfl pl_int rfl ?_)
    | ((with_reducible refine Step.gate_load (t := 4) rfl ?_); refine Step.load ST.out.at1 rfl rfl rfl pl_bool rfl ?_)
    | ((with_reducible refine Step.gate_load (t := 22) rfl ?_); refine Step.loadG ST.out.at1 rfl rfl rfl pl_u64 rfl ?_)
    | ((with_reducible refine Step.gate_load (t := 3) rfl ?_); refine Step.loadG ST.out.at1 rfl rfl rfl pl_int rfl ?_)
    | ((with_reducible refine Step.gate_load (t := 4) rfl ?_); refine Step.loadG ST.out.at1 rfl rfl rfl pl_bool rfl ?_)
    | ((with_reducible refine Step.gate_load (t := 22) rfl ?_); refine Step.load ST.out.at2 rfl rfl rfl pl_u64 (hv_ok _ (by decide)) ?_; simp only [hv_x0, hv_pc, hv_user, hv_on, hv_spie, hv_spp, hv_sum, hv_mxr, hv_rsv, hv_stvec, hv_sscr, hv_sepc, hv_scause, hv_stval, hv_sie, hv_sip, hv_satp, hv_resv])
    | ((with_reducible refine Step.gate_load (t := 4) rfl ?_); refine Step.load ST.out.at2 rfl rfl rfl pl_bool (hv_ok _ (by decide)) ?_; simp only [hv_x0, hv_pc, hv_user, hv_on, hv_spie, hv_spp, hv_sum, hv_mxr, hv_rsv, hv_stvec, hv_sscr, hv_sepc, hv_scause, hv_stval, hv_sie, hv_sip, hv_satp, hv_resv])
    | ((with_reducible refine Step.gate_store (t := 22) rfl ?_); refine Step.store ST.out.at2 rfl rfl rfl rfl rfl pl_u64 rfl rfl ?_; intro w3 nb m; simp [go_sem, set_x0, set_pc, set_user, set_on, set_spie, set_spp, set_sum, set_mxr, set_rsv, set_stvec, set_sscr, set_sepc, set_scause, set_stval, set_sie, set_sip, set_satp, set_resv] at nb; replace ST := Lib.hid (ST.out.set2 nb m); clear nb m)
    | ((with_reducible refine Step.gate_store (t := 4) rfl ?_); refine Step.store ST.out.at2 rfl rfl rfl rfl rfl pl_bool rfl rfl ?_; intro w3 nb m; simp [go_sem, set_x0, set_pc, set_user, set_on, set_spie, set_spp, set_sum, set_mxr, set_rsv, set_stvec, set_sscr, set_sepc, set_scause, set_stval, set_sie, set_sip, set_satp, set_resv] at nb; replace ST := Lib.hid (ST.out.set2 nb m); clear nb m)
    | ((with_reducible refine Step.gate_store (t := 25) rfl ?_); refine Step.storeAll ST.out.at2 rfl rfl rfl rfl rfl (size_hart _) rfl (hc_all _) ?_; intro w3 nb m; replace ST := Lib.hid (ST.out.set2 nb m); clear nb m)
    | ((with_reducible refine Step.gate_load (t := 25) rfl ?_); refine Step.loadAll ST.out.at2 rfl rfl rfl Try.underlying25 rfl (size_hart _) ?_)
    | ((with_reducible refine Step.gate_store (t := 25) rfl ?_); refine Step.storeAll ST.out.at0 rfl rfl rfl rfl rfl (size_hart _) rfl (hc_all _) ?_; intro w3 nb m; replace ST := Lib.hid (ST.out.set0 nb m); clear nb m)
    | ((with_reducible refine Step.gate_load (t := 25) rfl ?_); refine Step.loadAll ST.out.at0 rfl rfl rfl Try.underlying25 rfl (size_hart _) ?_))
  all_goals (refine bodyPost_ret (results_row rfl _ _ _ _ _ _ rfl ST.out.at0 Try.underlying25 rfl (size_hart _)) rfl ⟨rfl, ST.out.below⟩)
theorem rfinish_any (h : Hrt) (hf : Fit h) (a : Acc) {v : Int} (hv : U64 v) (w : World) : Calls Try.prog 11 #[.agg (hc h), .agg a.cells, .int .u64 v] w fun e w' => e = .returned (.agg (hc (fin h a v))) ∧ Below w.heap.size w w' := by
  obtain ⟨st, sg, sz, rg, ln, va, vl⟩ := a
  cases st with
  | true => rw [show fin h ⟨true, sg, sz, rg, ln, va, vl⟩ v = ord (finP (ord h) ln) from by simp [fin]]; exact rfinish_st h hf sg sz rg ln va vl v w
  | false =>
    by_cases h1 : 1 ≤ rg
    · by_cases h2 : rg ≤ 31
      · obtain ⟨n, rfl⟩ := Int.eq_ofNat_of_zero_le (show 0 ≤ rg by omega)
        rw [show fin h ⟨false, sg, sz, n, ln, va, vl⟩ v = ord (finX (finP (ord h) ln) n (extV v sz sg)) from by simp [fin, h1, h2]]
        exact rfinish_ld h hf sg sz ln va vl v hv (by omega) (by omega) w
      · rw [show fin h ⟨false, sg, sz, rg, ln, va, vl⟩ v = ord (finP (ord h) ln) from by simp [fin, h2]]; exact rfinish_hi h hf sg sz rg ln va vl v h1 h2 w
    · rw [show fin h ⟨false, sg, sz, rg, ln, va, vl⟩ v = ord (finP (ord h) ln) from by simp [fin, h1]]; exact rfinish_lo h hf sg sz rg ln va vl v h1 w
/-- The cause of an access that is refused. -/
def cau (ak : Int) : Int := if ak = 1 then 1 else if ak = 2 then 5 else 7
set_option maxHeartbeats 4000000 in
theorem refuse_fetch (h : Hrt) (hf : Fit h) (kd ak eva gpa : Int) (wk wr : Bool) (hv : U64 eva) (w : World) : Calls Try.prog 12 #[.agg (hc h), .agg #[.int .i64 kd, .int .i64 1, .int .u64 eva, .int .u64 gpa, .bool wk, .bool wr]] w fun e w' => e = .returned (.agg (hc (trg (ord h) 1 eva))) ∧ Below w.heap.size w w' := by
  have T0 := Lib.hid (trap_any h hf 1 eva ⟨by decide, by decide⟩ hv)
  clear hf hv
  generalize trg (ord h) 1 eva = r at *
  go_enter Try.func12, Try.ntmps12
  have ST := Lib.hid (Kn.nil (S := Step.Nil) (W := w))
  go_wp2_with (first
    | (go_at_call 21; (with_reducible refine (T0.out _).mono ?_); rintro e w' ⟨rfl, hb⟩; replace ST := Lib.hid (ST.out.call hb); clear hb)
    | ((with_reducible refine Step.gate_box (t := 25) rfl ?_); refine Step.fresh (cs := hc h) (T := 25) rfl ?hr ?_; (case hr => first | (go_simp; done) | (go_simp; rfl)); intro g1 w1 b hg hb; replace ST := Lib.hid (ST.out.made b hg hb); clear b hb; clear hg)
    | ((with_reducible refine Step.gate_box (t := 28) rfl ?_); refine Step.fresh (cs := #[.int .i64 kd, .int .i64 1, .int .u64 eva, .int .u64 gpa, .bool wk, .bool wr]) (T := 28) rfl ?hr ?_; (case hr => first | (go_simp; done) | (go_simp; rfl)); intro g2 w1 b hg hb; replace ST := Lib.hid (ST.out.made b hg hb); clear b hb; clear hg)
    | ((with_reducible refine Step.gate_alloc (t := 25) rfl ?_); refine Step.freshAlloc rfl rfl (alloc_agg zero_hart) ?_; intro g3 w2 b hg hb; replace ST := Lib.hid (ST.out.made b hg hb); clear b hb; clear hg)
    | ((with_reducible refine Step.gate_load (t := 22) rfl ?_); refine Step.load ST.out.at1 rfl rfl rfl pl_u64 rfl ?_)
    | ((with_reducible refine Step.gate_load (t := 3) rfl ?_); refine Step.load ST.out.at1 rfl rfl rfl pl_int rfl ?_)
    | ((with_reducible refine Step.gate_load (t := 4) rfl ?_); refine Step.load ST.out.at1 rfl rfl rfl pl_bool rfl ?_)
    | ((with_reducible refine Step.gate_load (t := 22) rfl ?_); refine Step.loadG ST.out.at1 rfl rfl rfl pl_u64 rfl ?_)
    | ((with_reducible refine Step.gate_load (t := 3) rfl ?_); refine Step.loadG ST.out.at1 rfl rfl rfl pl_int rfl ?_)
    | ((with_reducible refine Step.gate_load (t := 4) rfl ?_); refine Step.loadG ST.out.at1 rfl rfl rfl pl_bool rfl ?_)
    | ((with_reducible refine Step.gate_store (t := 25) rfl ?_); refine Step.storeAll ST.out.at2 rfl rfl rfl rfl rfl (size_hart _) rfl (hc_all _) ?_; intro w3 nb m; replace ST := Lib.hid (ST.out.set2 nb m); clear nb m)
    | ((with_reducible refine Step.gate_load (t := 25) rfl ?_); refine Step.loadAll ST.out.at2 rfl rfl rfl Try.underlying25 rfl (size_hart _) ?_)
    | ((with_reducible refine Step.gate_store (t := 25) rfl ?_); refine Step.storeAll ST.out.at0 rfl rfl rfl rfl rfl (size_hart _) rfl (hc_all _) ?_; intro w3 nb m; replace ST := Lib.hid (ST.out.set0 nb m); clear nb m)
    | ((with_reducible refine Step.gate_load (t := 25) rfl ?_); refine Step.loadAll ST.out.at0 rfl rfl rfl Try.underlying25 rfl (size_hart _) ?_))
  all_goals (refine bodyPost_ret (results_row rfl _ _ _ _ _ _ rfl ST.out.at0 Try.underlying25 rfl (size_hart _)) rfl ⟨rfl, ST.out.below⟩)
set_option maxHeartbeats 4000000 in
theorem refuse_load (h : Hrt) (hf : Fit h) (kd ak eva gpa : Int) (wk wr : Bool) (hv : U64 eva) (w : World) : Calls Try.prog 12 #[.agg (hc h), .agg #[.int .i64 kd, .int .i64 2, .int .u64 eva, .int .u64 gpa, .bool wk, .bool wr]] w fun e w' => e = .returned (.agg (hc (trg (ord h) 5 eva))) ∧ Below w.heap.size w w' := by
  have T0 := Lib.hid (trap_any h hf 5 eva ⟨by decide, by decide⟩ hv)
  clear hf hv
  generalize trg (ord h) 5 eva = r at *
  go_enter Try.func12, Try.ntmps12
  have ST := Lib.hid (Kn.nil (S := Step.Nil) (W := w))
  go_wp2_with (first
    | (go_at_call 21; (with_reducible refine (T0.out _).mono ?_); rintro e w' ⟨rfl, hb⟩; replace ST := Lib.hid (ST.out.call hb); clear hb)
    | ((with_reducible refine Step.gate_box (t := 25) rfl ?_); refine Step.fresh (cs := hc h) (T := 25) rfl ?hr ?_; (case hr => first | (go_simp; done) | (go_simp; rfl)); intro g1 w1 b hg hb; replace ST := Lib.hid (ST.out.made b hg hb); clear b hb; clear hg)
    | ((with_reducible refine Step.gate_box (t := 28) rfl ?_); refine Step.fresh (cs := #[.int .i64 kd, .int .i64 2, .int .u64 eva, .int .u64 gpa, .bool wk, .bool wr]) (T := 28) rfl ?hr ?_; (case hr => first | (go_simp; done) | (go_simp; rfl)); intro g2 w1 b hg hb; replace ST := Lib.hid (ST.out.made b hg hb); clear b hb; clear hg)
    | ((with_reducible refine Step.gate_alloc (t := 25) rfl ?_); refine Step.freshAlloc rfl rfl (alloc_agg zero_hart) ?_; intro g3 w2 b hg hb; replace ST := Lib.hid (ST.out.made b hg hb); clear b hb; clear hg)
    | ((with_reducible refine Step.gate_load (t := 22) rfl ?_); refine Step.load ST.out.at1 rfl rfl rfl pl_u64 rfl ?_)
    | ((with_reducible refine Step.gate_load (t := 3) rfl ?_); refine Step.load ST.out.at1 rfl rfl rfl pl_int rfl ?_)
    | ((with_reducible refine Step.gate_load (t := 4) rfl ?_); refine Step.load ST.out.at1 rfl rfl rfl pl_bool rfl ?_)
    | ((with_reducible refine Step.gate_load (t := 22) rfl ?_); refine Step.loadG ST.out.at1 rfl rfl rfl pl_u64 rfl ?_)
    | ((with_reducible refine Step.gate_load (t := 3) rfl ?_); refine Step.loadG ST.out.at1 rfl rfl rfl pl_int rfl ?_)
    | ((with_reducible refine Step.gate_load (t := 4) rfl ?_); refine Step.loadG ST.out.at1 rfl rfl rfl pl_bool rfl ?_)
    | ((with_reducible refine Step.gate_store (t := 25) rfl ?_); refine Step.storeAll ST.out.at2 rfl rfl rfl rfl rfl (size_hart _) rfl (hc_all _) ?_; intro w3 nb m; replace ST := Lib.hid (ST.out.set2 nb m); clear nb m)
    | ((with_reducible refine Step.gate_load (t := 25) rfl ?_); refine Step.loadAll ST.out.at2 rfl rfl rfl Try.underlying25 rfl (size_hart _) ?_)
    | ((with_reducible refine Step.gate_store (t := 25) rfl ?_); refine Step.storeAll ST.out.at0 rfl rfl rfl rfl rfl (size_hart _) rfl (hc_all _) ?_; intro w3 nb m; replace ST := Lib.hid (ST.out.set0 nb m); clear nb m)
    | ((with_reducible refine Step.gate_load (t := 25) rfl ?_); refine Step.loadAll ST.out.at0 rfl rfl rfl Try.underlying25 rfl (size_hart _) ?_))
  all_goals (refine bodyPost_ret (results_row rfl _ _ _ _ _ _ rfl ST.out.at0 Try.underlying25 rfl (size_hart _)) rfl ⟨rfl, ST.out.below⟩)
set_option maxHeartbeats 4000000 in
theorem refuse_store (h : Hrt) (hf : Fit h) (kd ak eva gpa : Int) (wk wr : Bool) (hv : U64 eva) (n1 : ¬ ak = 1) (n2 : ¬ ak = 2) (w : World) : Calls Try.prog 12 #[.agg (hc h), .agg #[.int .i64 kd, .int .i64 ak, .int .u64 eva, .int .u64 gpa, .bool wk, .bool wr]] w fun e w' => e = .returned (.agg (hc (trg (ord h) 7 eva))) ∧ Below w.heap.size w w' := by
  have e1 : (ak == 1) = false := beq_eq_false_iff_ne.2 n1
  have e2 : (ak == 2) = false := beq_eq_false_iff_ne.2 n2
  have T0 := Lib.hid (trap_any h hf 7 eva ⟨by decide, by decide⟩ hv)
  clear hf hv
  generalize trg (ord h) 7 eva = r at *
  go_enter Try.func12, Try.ntmps12
  have ST := Lib.hid (Kn.nil (S := Step.Nil) (W := w))
  go_wp2_with (first
    | (go_at_call 21; (with_reducible refine (T0.out _).mono ?_); rintro e w' ⟨rfl, hb⟩; replace ST := Lib.hid (ST.out.call hb); clear hb)
    | ((with_reducible refine Step.gate_box (t := 25) rfl ?_); refine Step.fresh (cs := hc h) (T := 25) rfl ?hr ?_; (case hr => first | (go_simp; done) | (go_simp; rfl)); intro g1 w1 b hg hb; replace ST := Lib.hid (ST.out.made b hg hb); clear b hb; clear hg)
    | ((with_reducible refine Step.gate_box (t := 28) rfl ?_); refine Step.fresh (cs := #[.int .i64 kd, .int .i64 ak, .int .u64 eva, .int .u64 gpa, .bool wk, .bool wr]) (T := 28) rfl ?hr ?_; (case hr => first | (go_simp; done) | (go_simp; rfl)); intro g2 w1 b hg hb; replace ST := Lib.hid (ST.out.made b hg hb); clear b hb; clear hg)
    | ((with_reducible refine Step.gate_alloc (t := 25) rfl ?_); refine Step.freshAlloc rfl rfl (alloc_agg zero_hart) ?_; intro g3 w2 b hg hb; replace ST := Lib.hid (ST.out.made b hg hb); clear b hb; clear hg)
    | ((with_reducible refine Step.gate_load (t := 22) rfl ?_); refine Step.load ST.out.at1 rfl rfl rfl pl_u64 rfl ?_)
    | ((with_reducible refine Step.gate_load (t := 3) rfl ?_); refine Step.load ST.out.at1 rfl rfl rfl pl_int rfl ?_)
    | ((with_reducible refine Step.gate_load (t := 4) rfl ?_); refine Step.load ST.out.at1 rfl rfl rfl pl_bool rfl ?_)
    | ((with_reducible refine Step.gate_load (t := 22) rfl ?_); refine Step.loadG ST.out.at1 rfl rfl rfl pl_u64 rfl ?_)
    | ((with_reducible refine Step.gate_load (t := 3) rfl ?_); refine Step.loadG ST.out.at1 rfl rfl rfl pl_int rfl ?_)
    | ((with_reducible refine Step.gate_load (t := 4) rfl ?_); refine Step.loadG ST.out.at1 rfl rfl rfl pl_bool rfl ?_)
    | ((with_reducible refine Step.gate_store (t := 25) rfl ?_); refine Step.storeAll ST.out.at2 rfl rfl rfl rfl rfl (size_hart _) rfl (hc_all _) ?_; intro w3 nb m; replace ST := Lib.hid (ST.out.set2 nb m); clear nb m)
    | ((with_reducible refine Step.gate_load (t := 25) rfl ?_); refine Step.loadAll ST.out.at2 rfl rfl rfl Try.underlying25 rfl (size_hart _) ?_)
    | ((with_reducible refine Step.gate_store (t := 25) rfl ?_); refine Step.storeAll ST.out.at0 rfl rfl rfl rfl rfl (size_hart _) rfl (hc_all _) ?_; intro w3 nb m; replace ST := Lib.hid (ST.out.set0 nb m); clear nb m)
    | ((with_reducible refine Step.gate_load (t := 25) rfl ?_); refine Step.loadAll ST.out.at0 rfl rfl rfl Try.underlying25 rfl (size_hart _) ?_))
  all_goals (refine bodyPost_ret (results_row rfl _ _ _ _ _ _ rfl ST.out.at0 Try.underlying25 rfl (size_hart _)) rfl ⟨rfl, ST.out.below⟩)
theorem refuse_any (h : Hrt) (hf : Fit h) (v : Evt) (hv : U64 v.va) (w : World) : Calls Try.prog 12 #[.agg (hc h), .agg v.cells] w fun e w' => e = .returned (.agg (hc (trg (ord h) (cau v.ak) v.va))) ∧ Below w.heap.size w w' := by
  obtain ⟨kd, ak, eva, gpa, wk, wr⟩ := v
  by_cases h1 : ak = 1
  · subst h1; exact refuse_fetch h hf kd 1 eva gpa wk wr hv w
  · by_cases h2 : ak = 2
    · subst h2; exact refuse_load h hf kd 2 eva gpa wk wr hv w
    · rw [show cau (Evt.ak ⟨kd, ak, eva, gpa, wk, wr⟩) = 7 from by simp [cau, h1, h2]]; exact refuse_store h hf kd ak eva gpa wk wr hv h1 h2 w
set_option maxHeartbeats 4000000 in
theorem rrefuse_fetch (h : Hrt) (hf : Fit h) (kd ak eva gpa : Int) (wk wr : Bool) (hv : U64 eva) (w : World) : Calls Try.prog 13 #[.agg (hc h), .agg #[.int .i64 kd, .int .i64 1, .int .u64 eva, .int .u64 gpa, .bool wk, .bool wr]] w fun e w' => e = .returned (.agg (hc (trg (ord h) 1 eva))) ∧ Below w.heap.size w w' := by
  have T0 := Lib.hid (rtrap_any h hf 1 eva ⟨by decide, by decide⟩ hv)
  clear hf hv
  generalize trg (ord h) 1 eva = r at *
  go_enter Try.func13, Try.ntmps13
  have ST := Lib.hid (Kn.nil (S := Step.Nil) (W := w))
  go_wp2_with (first
    | (go_at_call 22; (with_reducible refine (T0.out _).mono ?_); rintro e w' ⟨rfl, hb⟩; replace ST := Lib.hid (ST.out.call hb); clear hb)
    | ((with_reducible refine Step.gate_box (t := 25) rfl ?_); refine Step.fresh (cs := hc h) (T := 25) rfl ?hr ?_; (case hr => first | (go_simp; done) | (go_simp; rfl)); intro g1 w1 b hg hb; replace ST := Lib.hid (ST.out.made b hg hb); clear b hb; clear hg)
    | ((with_reducible refine Step.gate_box (t := 28) rfl ?_); refine Step.fresh (cs := #[.int .i64 kd, .int .i64 1, .int .u64 eva, .int .u64 gpa, .bool wk, .bool wr]) (T := 28) rfl ?hr ?_; (case hr => first | (go_simp; done) | (go_simp; rfl)); intro g2 w1 b hg hb; replace ST := Lib.hid (ST.out.made b hg hb); clear b hb; clear hg)
    | ((with_reducible refine Step.gate_alloc (t := 25) rfl ?_); refine Step.freshAlloc rfl rfl (alloc_agg zero_hart) ?_; intro g3 w2 b hg hb; replace ST := Lib.hid (ST.out.made b hg hb); clear b hb; clear hg)
    | ((with_reducible refine Step.gate_load (t := 22) rfl ?_); refine Step.load ST.out.at1 rfl rfl rfl pl_u64 rfl ?_)
    | ((with_reducible refine Step.gate_load (t := 3) rfl ?_); refine Step.load ST.out.at1 rfl rfl rfl pl_int rfl ?_)
    | ((with_reducible refine Step.gate_load (t := 4) rfl ?_); refine Step.load ST.out.at1 rfl rfl rfl pl_bool rfl ?_)
    | ((with_reducible refine Step.gate_load (t := 22) rfl ?_); refine Step.loadG ST.out.at1 rfl rfl rfl pl_u64 rfl ?_)
    | ((with_reducible refine Step.gate_load (t := 3) rfl ?_); refine Step.loadG ST.out.at1 rfl rfl rfl pl_int rfl ?_)
    | ((with_reducible refine Step.gate_load (t := 4) rfl ?_); refine Step.loadG ST.out.at1 rfl rfl rfl pl_bool rfl ?_)
    | ((with_reducible refine Step.gate_store (t := 25) rfl ?_); refine Step.storeAll ST.out.at2 rfl rfl rfl rfl rfl (size_hart _) rfl (hc_all _) ?_; intro w3 nb m; replace ST := Lib.hid (ST.out.set2 nb m); clear nb m)
    | ((with_reducible refine Step.gate_load (t := 25) rfl ?_); refine Step.loadAll ST.out.at2 rfl rfl rfl Try.underlying25 rfl (size_hart _) ?_)
    | ((with_reducible refine Step.gate_store (t := 25) rfl ?_); refine Step.storeAll ST.out.at0 rfl rfl rfl rfl rfl (size_hart _) rfl (hc_all _) ?_; intro w3 nb m; replace ST := Lib.hid (ST.out.set0 nb m); clear nb m)
    | ((with_reducible refine Step.gate_load (t := 25) rfl ?_); refine Step.loadAll ST.out.at0 rfl rfl rfl Try.underlying25 rfl (size_hart _) ?_))
  all_goals (refine bodyPost_ret (results_row rfl _ _ _ _ _ _ rfl ST.out.at0 Try.underlying25 rfl (size_hart _)) rfl ⟨rfl, ST.out.below⟩)
set_option maxHeartbeats 4000000 in
theorem rrefuse_load (h : Hrt) (hf : Fit h) (kd ak eva gpa : Int) (wk wr : Bool) (hv : U64 eva) (w : World) : Calls Try.prog 13 #[.agg (hc h), .agg #[.int .i64 kd, .int .i64 2, .int .u64 eva, .int .u64 gpa, .bool wk, .bool wr]] w fun e w' => e = .returned (.agg (hc (trg (ord h) 5 eva))) ∧ Below w.heap.size w w' := by
  have T0 := Lib.hid (rtrap_any h hf 5 eva ⟨by decide, by decide⟩ hv)
  clear hf hv
  generalize trg (ord h) 5 eva = r at *
  go_enter Try.func13, Try.ntmps13
  have ST := Lib.hid (Kn.nil (S := Step.Nil) (W := w))
  go_wp2_with (first
    | (go_at_call 22; (with_reducible refine (T0.out _).mono ?_); rintro e w' ⟨rfl, hb⟩; replace ST := Lib.hid (ST.out.call hb); clear hb)
    | ((with_reducible refine Step.gate_box (t := 25) rfl ?_); refine Step.fresh (cs := hc h) (T := 25) rfl ?hr ?_; (case hr => first | (go_simp; done) | (go_simp; rfl)); intro g1 w1 b hg hb; replace ST := Lib.hid (ST.out.made b hg hb); clear b hb; clear hg)
    | ((with_reducible refine Step.gate_box (t := 28) rfl ?_); refine Step.fresh (cs := #[.int .i64 kd, .int .i64 2, .int .u64 eva, .int .u64 gpa, .bool wk, .bool wr]) (T := 28) rfl ?hr ?_; (case hr => first | (go_simp; done) | (go_simp; rfl)); intro g2 w1 b hg hb; replace ST := Lib.hid (ST.out.made b hg hb); clear b hb; clear hg)
    | ((with_reducible refine Step.gate_alloc (t := 25) rfl ?_); refine Step.freshAlloc rfl rfl (alloc_agg zero_hart) ?_; intro g3 w2 b hg hb; replace ST := Lib.hid (ST.out.made b hg hb); clear b hb; clear hg)
    | ((with_reducible refine Step.gate_load (t := 22) rfl ?_); refine Step.load ST.out.at1 rfl rfl rfl pl_u64 rfl ?_)
    | ((with_reducible refine Step.gate_load (t := 3) rfl ?_); refine Step.load ST.out.at1 rfl rfl rfl pl_int rfl ?_)
    | ((with_reducible refine Step.gate_load (t := 4) rfl ?_); refine Step.load ST.out.at1 rfl rfl rfl pl_bool rfl ?_)
    | ((with_reducible refine Step.gate_load (t := 22) rfl ?_); refine Step.loadG ST.out.at1 rfl rfl rfl pl_u64 rfl ?_)
    | ((with_reducible refine Step.gate_load (t := 3) rfl ?_); refine Step.loadG ST.out.at1 rfl rfl rfl pl_int rfl ?_)
    | ((with_reducible refine Step.gate_load (t := 4) rfl ?_); refine Step.loadG ST.out.at1 rfl rfl rfl pl_bool rfl ?_)
    | ((with_reducible refine Step.gate_store (t := 25) rfl ?_); refine Step.storeAll ST.out.at2 rfl rfl rfl rfl rfl (size_hart _) rfl (hc_all _) ?_; intro w3 nb m; replace ST := Lib.hid (ST.out.set2 nb m); clear nb m)
    | ((with_reducible refine Step.gate_load (t := 25) rfl ?_); refine Step.loadAll ST.out.at2 rfl rfl rfl Try.underlying25 rfl (size_hart _) ?_)
    | ((with_reducible refine Step.gate_store (t := 25) rfl ?_); refine Step.storeAll ST.out.at0 rfl rfl rfl rfl rfl (size_hart _) rfl (hc_all _) ?_; intro w3 nb m; replace ST := Lib.hid (ST.out.set0 nb m); clear nb m)
    | ((with_reducible refine Step.gate_load (t := 25) rfl ?_); refine Step.loadAll ST.out.at0 rfl rfl rfl Try.underlying25 rfl (size_hart _) ?_))
  all_goals (refine bodyPost_ret (results_row rfl _ _ _ _ _ _ rfl ST.out.at0 Try.underlying25 rfl (size_hart _)) rfl ⟨rfl, ST.out.below⟩)
set_option maxHeartbeats 4000000 in
theorem rrefuse_store (h : Hrt) (hf : Fit h) (kd ak eva gpa : Int) (wk wr : Bool) (hv : U64 eva) (n1 : ¬ ak = 1) (n2 : ¬ ak = 2) (w : World) : Calls Try.prog 13 #[.agg (hc h), .agg #[.int .i64 kd, .int .i64 ak, .int .u64 eva, .int .u64 gpa, .bool wk, .bool wr]] w fun e w' => e = .returned (.agg (hc (trg (ord h) 7 eva))) ∧ Below w.heap.size w w' := by
  have e1 : (ak == 1) = false := beq_eq_false_iff_ne.2 n1
  have e2 : (ak == 2) = false := beq_eq_false_iff_ne.2 n2
  have T0 := Lib.hid (rtrap_any h hf 7 eva ⟨by decide, by decide⟩ hv)
  clear hf hv
  generalize trg (ord h) 7 eva = r at *
  go_enter Try.func13, Try.ntmps13
  have ST := Lib.hid (Kn.nil (S := Step.Nil) (W := w))
  go_wp2_with (first
    | (go_at_call 22; (with_reducible refine (T0.out _).mono ?_); rintro e w' ⟨rfl, hb⟩; replace ST := Lib.hid (ST.out.call hb); clear hb)
    | ((with_reducible refine Step.gate_box (t := 25) rfl ?_); refine Step.fresh (cs := hc h) (T := 25) rfl ?hr ?_; (case hr => first | (go_simp; done) | (go_simp; rfl)); intro g1 w1 b hg hb; replace ST := Lib.hid (ST.out.made b hg hb); clear b hb; clear hg)
    | ((with_reducible refine Step.gate_box (t := 28) rfl ?_); refine Step.fresh (cs := #[.int .i64 kd, .int .i64 ak, .int .u64 eva, .int .u64 gpa, .bool wk, .bool wr]) (T := 28) rfl ?hr ?_; (case hr => first | (go_simp; done) | (go_simp; rfl)); intro g2 w1 b hg hb; replace ST := Lib.hid (ST.out.made b hg hb); clear b hb; clear hg)
    | ((with_reducible refine Step.gate_alloc (t := 25) rfl ?_); refine Step.freshAlloc rfl rfl (alloc_agg zero_hart) ?_; intro g3 w2 b hg hb; replace ST := Lib.hid (ST.out.made b hg hb); clear b hb; clear hg)
    | ((with_reducible refine Step.gate_load (t := 22) rfl ?_); refine Step.load ST.out.at1 rfl rfl rfl pl_u64 rfl ?_)
    | ((with_reducible refine Step.gate_load (t := 3) rfl ?_); refine Step.load ST.out.at1 rfl rfl rfl pl_int rfl ?_)
    | ((with_reducible refine Step.gate_load (t := 4) rfl ?_); refine Step.load ST.out.at1 rfl rfl rfl pl_bool rfl ?_)
    | ((with_reducible refine Step.gate_load (t := 22) rfl ?_); refine Step.loadG ST.out.at1 rfl rfl rfl pl_u64 rfl ?_)
    | ((with_reducible refine Step.gate_load (t := 3) rfl ?_); refine Step.loadG ST.out.at1 rfl rfl rfl pl_int rfl ?_)
    | ((with_reducible refine Step.gate_load (t := 4) rfl ?_); refine Step.loadG ST.out.at1 rfl rfl rfl pl_bool rfl ?_)
    | ((with_reducible refine Step.gate_store (t := 25) rfl ?_); refine Step.storeAll ST.out.at2 rfl rfl rfl rfl rfl (size_hart _) rfl (hc_all _) ?_; intro w3 nb m; replace ST := Lib.hid (ST.out.set2 nb m); clear nb m)
    | ((with_reducible refine Step.gate_load (t := 25) rfl ?_); refine Step.loadAll ST.out.at2 rfl rfl rfl Try.underlying25 rfl (size_hart _) ?_)
    | ((with_reducible refine Step.gate_store (t := 25) rfl ?_); refine Step.storeAll ST.out.at0 rfl rfl rfl rfl rfl (size_hart _) rfl (hc_all _) ?_; intro w3 nb m; replace ST := Lib.hid (ST.out.set0 nb m); clear nb m)
    | ((with_reducible refine Step.gate_load (t := 25) rfl ?_); refine Step.loadAll ST.out.at0 rfl rfl rfl Try.underlying25 rfl (size_hart _) ?_))
  all_goals (refine bodyPost_ret (results_row rfl _ _ _ _ _ _ rfl ST.out.at0 Try.underlying25 rfl (size_hart _)) rfl ⟨rfl, ST.out.below⟩)
theorem rrefuse_any (h : Hrt) (hf : Fit h) (v : Evt) (hv : U64 v.va) (w : World) : Calls Try.prog 13 #[.agg (hc h), .agg v.cells] w fun e w' => e = .returned (.agg (hc (trg (ord h) (cau v.ak) v.va))) ∧ Below w.heap.size w w' := by
  obtain ⟨kd, ak, eva, gpa, wk, wr⟩ := v
  by_cases h1 : ak = 1
  · subst h1; exact rrefuse_fetch h hf kd 1 eva gpa wk wr hv w
  · by_cases h2 : ak = 2
    · subst h2; exact rrefuse_load h hf kd 2 eva gpa wk wr hv w
    · rw [show cau (Evt.ak ⟨kd, ak, eva, gpa, wk, wr⟩) = 7 from by simp [cau, h1, h2]]; exact rrefuse_store h hf kd ak eva gpa wk wr hv h1 h2 w
end Go.Proofs.Ytecpkipgkaaefaa.Hart
end
