/- Parts of the walks and laws for the claim: LawExpK, Wd, WdC, Mio; no conditions beyond the theorems' own. -/
import Derived.Test.YtchpnbckgofiaaaGreatQ2
import Derived.Test.YtchpnbckgofiaaaGreatQ4
import Derived.Test.YtchpnbckgofiaaaGreatQ27
section
namespace Go.Proofs.YtchpnbckgofiaaaGreat.Enc
open Go Go.RowKit Go.Proofs.YtchpnbckgofiaaaGreat.Step
set_option linter.unusedVariables false
set_option linter.unusedSimpArgs false
set_option maxRecDepth 100000
theorem Xp_xV {d : Option Ins} {v : Value} (h : Xp d v) : v = xV d := by
  cases h with
  | none h => subst h; rfl
  | no i h hn => subst h; simp [xV, eV, eB, hn]
  | yes i h hy => subst h; simp [xV, eV, eB, hy]
theorem rsize_any (c : Int) (h0 : 0 ≤ c ∧ c < 65536) (w : World) : Calls Tryz.prog 18 #[.int .u16 c] w fun e w' => e = .returned (.int .i64 (if c % 4 = 3 then 4 else 2)) ∧ Below w.heap.size w w' := by
  have hm : c.tmod 4 = c % 4 := Int.tmod_eq_emod_of_nonneg h0.1
  by_cases h : c % 4 = 3
  · rw [if_pos h]
    rw [h] at hm
    go_enter Tryz.func18, Tryz.ntmps18
    go_wp2
    go_ret
    exact ⟨rfl, Below.refl _ _⟩
  · rw [if_neg h]
    have hm' : (c.tmod 4 == 3) = false := by rw [hm]; exact beq_eq_false_iff_ne.2 h
    have hm2 : (c % 4 == 3) = false := beq_eq_false_iff_ne.2 h
    clear hm
    go_enter Tryz.func18, Tryz.ntmps18
    go_wp2
    go_ret
    exact ⟨rfl, Below.refl _ _⟩
end Go.Proofs.YtchpnbckgofiaaaGreat.Enc
end
section
namespace Go.Proofs.YtchpnbckgofiaaaGreat.Hart
open Go Go.RowKit Go.Proofs.YtchpnbckgofiaaaGreat.Step Go.Proofs.YtchpnbckgofiaaaGreat.Enc Go.Proofs.YtchpnbckgofiaaaGreat.Kn
set_option linter.unusedVariables false
set_option linter.unusedSimpArgs false
set_option maxRecDepth 100000
/-- A function of two words answers a word, ever the same. -/
def Ans (f : FuncId) (a b : Int) : Prop := ∃ r, U64 r ∧ ∀ w, Calls Tryz.prog f #[.agg #[.int .u64 a, .int .u64 b]] w fun e w' => e = .returned (.int .u64 r) ∧ Below w.heap.size w w'
theorem Ans.at_ {f : FuncId} {a b : Int} (r : Int) (hr : U64 r) (h : ∀ w, Calls Tryz.prog f #[.agg #[.int .u64 a, .int .u64 b]] w fun e w' => e = .returned (.int .u64 r) ∧ Below w.heap.size w w') : Ans f a b := ⟨r, hr, h⟩
theorem bits_w (op : BinOp) {a b : Int} (h : ∃ v, bits op .u64 a b = IntKind.u64.wrap v) : U64 (bits op .u64 a b) := by obtain ⟨v, e⟩ := h; rw [e]; exact wrap_w v
theorem and_w (a b : Int) : U64 (bits .and .u64 a b) := bits_w _ ⟨_, rfl⟩
end Go.Proofs.YtchpnbckgofiaaaGreat.Hart
end
section
namespace Go.Proofs.YtchpnbckgofiaaaGreat.Hart
open Go Go.RowKit Go.Proofs.YtchpnbckgofiaaaGreat.Step Go.Proofs.YtchpnbckgofiaaaGreat.Enc Go.Proofs.YtchpnbckgofiaaaGreat.Kn
set_option linter.unusedVariables false
set_option linter.unusedSimpArgs false
set_option maxRecDepth 100000
/-- Some bytes of a number as a word. -/
def extV (v : Int) (sz : Int) (sg : Bool) : Int :=
  if sz = 1 then (if sg = true ∧ v % 256 ≥ 128 then v % 256 + 18446744073709551360 else v % 256)
  else if sz = 2 then (if sg = true ∧ v % 65536 ≥ 32768 then v % 65536 + 18446744073709486080 else v % 65536)
  else if sz = 4 then (if sg = true ∧ v % 4294967296 ≥ 2147483648 then v % 4294967296 + 18446744069414584320 else v % 4294967296)
  else v
end Go.Proofs.YtchpnbckgofiaaaGreat.Hart
end
section
namespace Go.Proofs.YtchpnbckgofiaaaGreat.Hart
open Go Go.RowKit Go.Proofs.YtchpnbckgofiaaaGreat.Step Go.Proofs.YtchpnbckgofiaaaGreat.Enc Go.Proofs.YtchpnbckgofiaaaGreat.Kn
set_option linter.unusedVariables false
set_option linter.unusedSimpArgs false
set_option maxRecDepth 100000
/-- An access. -/
structure Acc where
  st : Bool
  sg : Bool
  sz : Int
  rg : Int
  ln : Int
  va : Int
  vl : Int
def Acc.cells (a : Acc) : Array Value := #[.bool a.st, .bool a.sg, .int .i64 a.sz, .int .i64 a.rg, .int .i64 a.ln, .int .u64 a.va, .int .u64 a.vl]
def Acc.zero : Acc := ⟨false, false, 0, 0, 0, 0, 0⟩
/-- An event. -/
structure Evt where
  kd : Int
  ak : Int
  va : Int
  gpa : Int
  wk : Bool
  wr : Bool
def Evt.cells (e : Evt) : Array Value := #[.int .i64 e.kd, .int .i64 e.ak, .int .u64 e.va, .int .u64 e.gpa, .bool e.wk, .bool e.wr]
theorem zero_acc : (Tryz.prog.info? 63).bind (·.zero) = some (.agg #[.bool false, .bool false, .int .i64 0, .int .i64 0, .int .i64 0, .int .u64 0, .int .u64 0]) := by kernel_rfl
theorem size_acc : (Tryz.prog.info? 63).map (·.size) = some 7 := by kernel_rfl
theorem morder_any (h : Hrt) (hf : Fit h) (w : World) : Calls Tryz.prog 12 #[.agg (hc h)] w fun e w' => e = .returned (.agg (hc (ord h))) ∧ Below w.heap.size w w' := by
  have T0 := Lib.hid (write_none h hf 0)
  clear hf
  generalize ord h = h2 at *
  go_enter Tryz.func12, Tryz.ntmps12
  have ST := Lib.hid (Kn.nil (S := Step.Nil) (W := w))
  go_wp2_with (first
 | (go_at_call 30; (with_reducible refine (T0.out _).mono ?_); rintro e w' ⟨rfl, hb⟩; replace ST := Lib.hid (ST.out.call hb); clear hb)
 | ((with_reducible refine Step.gate_box (t := 27) rfl ?_); refine Step.fresh (cs := hc h) (T := 27) rfl ?hr ?_; (case hr => first | (go_simp; done) | (go_simp; rfl)); intro g1 w1 b hg hb; replace ST := Lib.hid (ST.out.made b hg hb); clear b hb; clear hg)
 | (refine Step.freshAlloc rfl rfl (alloc_agg zero_hart) ?_; intro g2 w2 b hg hb; replace ST := Lib.hid (ST.out.made b hg hb); clear b hb; clear hg)
 | (refine Step.storeAll ST.out.at0 rfl rfl rfl rfl rfl (size_hart _) rfl (hc_all _) ?_; intro w3 nb m; replace ST := Lib.hid (ST.out.set0 nb m); clear nb m)
 | (refine Step.loadAll ST.out.at0 rfl rfl rfl Tryz.underlying27 rfl (size_hart _) ?_)
 | (refine Step.storeAll ST.out.at1 rfl rfl rfl rfl rfl (size_hart _) rfl (hc_all _) ?_; intro w3 nb m; replace ST := Lib.hid (ST.out.set1 nb m); clear nb m)
 | (refine Step.loadAll ST.out.at1 rfl rfl rfl Tryz.underlying27 rfl (size_hart _) ?_))
  all_goals (refine bodyPost_ret (results_row rfl _ _ _ _ _ _ rfl ST.out.at0 Tryz.underlying27 rfl (size_hart _)) rfl ⟨rfl, ST.out.below⟩)
/-- A hart behind a load or store that is ended. -/
def finP (h : Hrt) (ln : Int) : Hrt := { h with pc := IntKind.u64.wrap (h.pc + IntKind.u64.wrap ln) }
def finX (h : Hrt) (n : Nat) (v : Int) : Hrt := { h with x := xup h.x n v }
def fin (h : Hrt) (a : Acc) (v : Int) : Hrt := ord (if a.st = false ∧ 1 ≤ a.rg ∧ a.rg ≤ 31 then finX (finP (ord h) a.ln) a.rg.toNat (extV v a.sz a.sg) else finP (ord h) a.ln)
end Go.Proofs.YtchpnbckgofiaaaGreat.Hart
end
