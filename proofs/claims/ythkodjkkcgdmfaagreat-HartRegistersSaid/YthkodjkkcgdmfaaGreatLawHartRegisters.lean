/- The row of a law: its walk, opened and shut again; no conditions beyond the theorem's own. -/
import Derived.Test.YthkodjkkcgdmfaaGreatRows
import Derived.Test.YthkodjkkcgdmfaaGreatT26
import Derived.WalkKit
import Derived.ProofKit
import Derived.OpenShut
import Derived.ShutString
import Derived.ChangeOld
import Derived.Below
import Derived.SizedLaws
import Derived.Carry
namespace Go.Proofs.YthkodjkkcgdmfaaGreat.hartRegisters
open Go.ChangeShapes Go.WideShapes Go.ChangeAt Go.RowKit
open Go.ChangeMaps (open_string shut_string)
set_option linter.unusedVariables false
theorem own : ownKnob Tryz.prog.godebug = none := by kernel_rfl
theorem laidOut : laidOutB Tryz.prog = true := by kernel_rfl
set_option maxRecDepth 100000 in
theorem lifted (os : Os) (started : os.Started) (H : Type) (enc : TypeId × Value → H) :
    ReturnsInHanded {} Tryz.checked os 8 .any (Rows.hartRegistersSpec.pre6 enc Tryz.prog Tryz.f8 Rows.hartRegistersRow.domain false) (Rows.hartRegistersSpec.post enc Tryz.prog Tryz.f8 false true false false) := by
  refine returnsInHanded_of_change_sized (C := Tryz.checked) own started (by kernel_rfl) Tryz.func8
    (ChangeSpec.witness6 (enc := enc) (C := Tryz.checked) false ⟨#[], #[.agg #[.int .u64 0, .int .u64 0, .int .u64 0, .int .u64 0, .int .u64 0, .int .u64 0, .int .u64 0, .int .u64 0, .int .u64 0, .int .u64 0, .int .u64 0, .int .u64 0, .int .u64 0, .int .u64 0, .int .u64 0, .int .u64 0, .int .u64 0, .int .u64 0, .int .u64 0, .int .u64 0, .int .u64 0, .int .u64 0, .int .u64 0, .int .u64 0, .int .u64 0, .int .u64 0, .int .u64 0, .int .u64 0, .int .u64 0, .int .u64 0, .int .u64 0, .int .u64 0, .int .u64 0, .bool false, .bool false, .bool false, .bool false, .bool false, .bool false, .bool false, .int .u64 0, .int .u64 0, .int .u64 0, .int .u64 0, .int .u64 0, .int .u64 0, .int .u64 0, .int .u64 0, .int .u64 0], .int .i64 0, .int .i64 0, .int .i64 0, .int .i64 0], []⟩ 8 (by kernel_rfl) (by kernel_rfl) (by kernel_rfl) (by kernel_rfl)) ?_
  intro W base args ds gs before hval0 hW hcnd hsz0 _
  have hsz : (DataW.weightsEach Tryz.prog (Tryz.f8.params.toList ++ Rows.hartRegistersSpec.plain.varTypes Tryz.prog) (ds ++ gs)).all (· ≤ reachBytes) = true := hsz0
  have hval : ∀ (j : Nat) t v, Tryz.f8.params[j]? = some t → args[j]? = some v → Value.okWide Tryz.prog W .any base t v := hval0
  have hW' := hW
  obtain ⟨p, q, hA0, hV, rfl, hfz, hnd⟩ := hW
  have hA : DataW.TrodAll enc Tryz.prog W 0 (fun _ => true) true Tryz.f8.params.toList args.toList ds p := hA0
  rw [Tryz.params8] at hA hval hsz
  obtain ⟨v0, vs0, d0, ds0, p0, q0, hargs, rfl, rfl, h0, r0⟩ := trodAll_cons hA
  obtain ⟨v1, vs1, d1, ds1, p1, q1, rfl, rfl, rfl, h1, r1⟩ := trodAll_cons r0
  obtain ⟨v2, vs2, d2, ds2, p2, q2, rfl, rfl, rfl, h2, r2⟩ := trodAll_cons r1
  obtain ⟨v3, vs3, d3, ds3, p3, q3, rfl, rfl, rfl, h3, r3⟩ := trodAll_cons r2
  obtain ⟨v4, vs4, d4, ds4, p4, q4, rfl, rfl, rfl, h4, r4⟩ := trodAll_cons r3
  obtain ⟨rfl, rfl, rfl⟩ := trodAll_nil r4
  obtain rfl : args = #[v0, v1, v2, v3, v4] := by cases args; simp_all
  obtain ⟨rfl, rfl⟩ := trodVars_none hV
  have k0 := h0
  have lt0 : ∀ x ∈ p0, x.block < W.heap.size := by obtain ⟨m, hm⟩ := k0; exact DataW.trod_lt m _ _ _ hm
  obtain ⟨a0, rfl, w0⟩ := Hart.open_hart (hval 0 25 v0 rfl rfl) h0
  obtain ⟨a1, rfl, rfl, rfl, w1⟩ := open_int Tryz.underlying3 (hval 1 3 v1 rfl rfl) h1
  obtain ⟨a2, rfl, rfl, rfl, w2⟩ := open_int Tryz.underlying3 (hval 2 3 v2 rfl rfl) h2
  obtain ⟨a3, rfl, rfl, rfl, w3⟩ := open_int Tryz.underlying3 (hval 3 3 v3 rfl rfl) h3
  obtain ⟨a4, rfl, rfl, rfl, w4⟩ := open_int Tryz.underlying3 (hval 4 3 v4 rfl rfl) h4
  clear hA0 hval0 hsz0 hsz
  refine (Hart.registers_row a0 a1 a2 a3 a4 W w0 w1 w2 w3 w4).mono fun e W' ⟨he, bel⟩ => ?_
  subst he
  exact ⟨_, rfl, _, _, _, [], _, [], hW', trodAll_mk1 (shut_bool Tryz.underlying4 _), (trodAll_cons_mk (Below.trod laidOut (by kernel_rfl) (of_decide_eq_true (by kernel_rfl)) k0 bel lt0) (trodAll_cons_mk (shut_int Tryz.underlying3 w1) (trodAll_cons_mk (shut_int Tryz.underlying3 w2) (trodAll_cons_mk (shut_int Tryz.underlying3 w3) (trodAll_cons_mk (shut_int Tryz.underlying3 w4) trodAll_mk0))))), rfl, bel.frame _, fun h => by cases h⟩
set_option maxRecDepth 100000 in
theorem k0 : Rows.hartRegistersRow.wf (OpenSpec.ofChange Rows.hartRegistersSpec) = true := by kernel_rfl
set_option maxRecDepth 100000 in
theorem k1 : laidOutB Tryz.prog = true := by kernel_rfl
set_option maxRecDepth 100000 in
theorem k2 : mapsRowed Tryz.prog = true := by kernel_rfl
set_option maxRecDepth 100000 in
theorem k3 : Tryz.f8.params.all (Tryz.prog.readableRec ·) = true := by kernel_rfl
set_option maxRecDepth 100000 in
theorem k4 : namedTie Tryz.prog Rows.hartRegistersRow.named Rows.hartRegistersSpec.vars = true := by kernel_rfl
set_option maxRecDepth 100000 in
theorem k5 : (Rows.hartRegistersRow.stops == []) = true := by kernel_rfl
set_option maxRecDepth 100000 in
theorem k6 : (Tryz.prog.stops == []) = true := by kernel_rfl
set_option maxRecDepth 100000 in
theorem k7 : (Rows.hartRegistersRow.knobs == []) = true := by kernel_rfl
set_option maxRecDepth 100000 in
theorem k8 : (Tryz.prog.stopKnobs == []) = true := by kernel_rfl
set_option maxRecDepth 100000 in
theorem k9 : (Rows.hartRegistersRow.inPlace == Tryz.prog.inPlace 8) = true := by kernel_rfl
set_option maxRecDepth 100000 in
theorem k10 : (Rows.hartRegistersRow.unfollowed == Tryz.prog.unfollowed 8) = true := by kernel_rfl
set_option maxRecDepth 100000 in
theorem k11 : (Rows.hartRegistersRow.recurses == Tryz.prog.recurses 8) = true := by kernel_rfl
set_option maxRecDepth 100000 in
theorem k12 : (Rows.hartRegistersRow.named == Tryz.prog.varsNamed 8) = true := by kernel_rfl
set_option maxRecDepth 100000 in
theorem k13 : (Rows.hartRegistersRow.maps == (Tryz.f8.params.toList ++ Rows.hartRegistersSpec.plain.varTypes Tryz.prog).any (Tryz.prog.mapsRec ·)) = true := by kernel_rfl
set_option maxRecDepth 100000 in
theorem k14 : (Rows.hartRegistersRow.ifaces == (Tryz.f8.params.toList ++ Rows.hartRegistersSpec.plain.varTypes Tryz.prog).any (Tryz.prog.ifacesRec ·)) = true := by kernel_rfl
set_option maxRecDepth 100000 in
theorem k15 : (Rows.hartRegistersRow.mapsOut == Tryz.prog.mapsAmong Tryz.f8.resultTypes.toList) = true := by kernel_rfl
set_option maxRecDepth 100000 in
theorem k16 : (Rows.hartRegistersRow.loops == (Tryz.f8.params.toList ++ Rows.hartRegistersSpec.plain.varTypes Tryz.prog).any (Tryz.prog.loopsFrom ·)) = true := by kernel_rfl
set_option maxRecDepth 100000 in
theorem k17 : (Rows.hartRegistersRow.wideKeys == (Tryz.f8.params.toList ++ Rows.hartRegistersSpec.plain.varTypes Tryz.prog ++ Tryz.f8.resultTypes.toList).any (Tryz.prog.wideKeysFrom ·)) = true := by kernel_rfl
set_option maxRecDepth 100000 in
theorem k18 : Rows.hartRegistersSpec.vars.all (Tryz.prog.varReadable ·) = true := by kernel_rfl
set_option maxRecDepth 100000 in
theorem k19 : Tryz.f8.resultTypes.all (fun t => Tryz.prog.readableRec t && decide (t < Tryz.prog.types.size)) = true := by kernel_rfl
set_option maxRecDepth 100000 in
theorem k20 : (Rows.hartRegistersRow.ifacesOut == Tryz.f8.resultTypes.toList.any (Tryz.prog.ifacesRec ·)) = true := by kernel_rfl
set_option maxRecDepth 100000 in
theorem k21 : (Rows.hartRegistersRow.loopsOut == Tryz.f8.resultTypes.toList.any (Tryz.prog.loopsFrom ·)) = true := by kernel_rfl
set_option maxRecDepth 100000 in
theorem k22 : (Rows.hartRegistersRow.plainKeys == Tryz.prog.plainKeys) = true := by kernel_rfl
set_option maxRecDepth 100000 in
theorem k23 : Rows.hartRegistersRow.shortTexts.isNone = true := by kernel_rfl
set_option maxRecDepth 100000 in
theorem k24 : Tryz.prog.stopsHeard = true := by kernel_rfl
set_option maxRecDepth 100000 in
theorem k25 : Tryz.prog.mayEnter = true := by kernel_rfl
set_option maxRecDepth 100000 in
theorem k26 : (Rows.hartRegistersRow.lifted == Tryz.prog.liftsFinal) = true := by kernel_rfl
set_option maxRecDepth 100000 in
theorem k27 : (Tryz.prog.make == some Rows.hartRegistersRow.make) = true := by kernel_rfl
set_option maxRecDepth 100000 in
theorem k28 : (Rows.hartRegistersRow.kinds == (if Rows.hartRegistersRow.domain.isEmpty then [] else Tryz.f8.params.toList.map fun t => match Tryz.prog.underlying t with | some (.int k) => some k | _ => none)) = true := by kernel_rfl
set_option maxRecDepth 100000 in
theorem k29 : (Rows.hartRegistersRow.pinned == Rows.hartRegistersRow.pinnedBy) = true := by kernel_rfl
set_option maxRecDepth 100000 in
theorem k30 : (Rows.hartRegistersRow.veiled == (Tryz.f8.params.toList ++ Rows.hartRegistersSpec.plain.varTypes Tryz.prog ++ Tryz.f8.resultTypes.toList).any (Tryz.prog.veiledRec ·)) = true := by kernel_rfl
set_option maxRecDepth 100000 in
theorem k31 : Rows.hartRegistersRow.veiledFits Tryz.prog Tryz.f8.params.toList (Tryz.f8.params.toList ++ Rows.hartRegistersSpec.plain.varTypes Tryz.prog ++ Tryz.f8.resultTypes.toList) = true := by kernel_rfl
theorem and_t {a b : Bool} (ha : a = true) (hb : b = true) : (a && b) = true := by rw [ha, hb]; rfl
set_option maxRecDepth 100000 in
theorem closed : joinedFacts Tryz.prog 8 Tryz.f8 Rows.hartRegistersSpec Rows.hartRegistersRow = true := (and_t (and_t (and_t (and_t (and_t (and_t (and_t (and_t (and_t (and_t (and_t (and_t (and_t (and_t (and_t (and_t (and_t (and_t (and_t (and_t (and_t (and_t (and_t (and_t (and_t (and_t (and_t (and_t (and_t (and_t (and_t k0 k1) k2) k3) k4) k5) k6) k7) k8) k9) k10) k11) k12) k13) k14) k15) k16) k17) k18) k19) k20) k21) k22) k23) k24) k25) k26) k27) k28) k29) k30) k31)
theorem named : Tryz.pinned.checked.prog.funcNamed Rows.hartRegistersRow.func = some 8 := by kernel_rfl
theorem inst : Tryz.f8.isInstance Tryz.pinned.checked.prog Rows.hartRegistersRow.origin Rows.hartRegistersRow.targs := of_decide_eq_true (by kernel_rfl)
theorem wrapper : Tryz.f8.isWrapper Tryz.pinned.checked.prog Rows.hartRegistersRow.wrapper Rows.hartRegistersRow.mainSum := by unfold Func.isWrapper; first | (rw [if_pos (by decide +kernel)]; kernel_rfl) | (rw [if_neg (by decide +kernel)]; exact ⟨rfl, rfl⟩)
theorem over : Rows.hartRegistersRow.holds Tryz.pinned (OpenSpec.ofChange Rows.hartRegistersSpec) :=
  OpenClaim.holds_of_wide 8 Tryz.f8 rfl rfl rfl rfl rfl rfl rfl ⟨rfl, rfl, rfl, rfl, rfl⟩ rfl rfl rfl rfl rfl named Tryz.func8 closed inst wrapper
    (fun os started H enc _ => lifted os started H enc)
theorem proved : Rows.HartRegistersSaid := over
#print axioms proved
end Go.Proofs.YthkodjkkcgdmfaaGreat.hartRegisters
namespace Go.Proofs.YthkodjkkcgdmfaaGreat
/-- The row, under a short name, for the claim. -/
theorem hartRegisters_holds : Rows.HartRegistersSaid := hartRegisters.proved
end Go.Proofs.YthkodjkkcgdmfaaGreat
