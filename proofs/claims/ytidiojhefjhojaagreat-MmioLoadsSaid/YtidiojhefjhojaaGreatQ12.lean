/- Parts of the walks and laws for the claim: DecE, Run, RunL, Once; no conditions beyond the theorems' own. -/
import Derived.ChangeAlike
import Derived.Defers
import Derived.Laws.LoneSync
import Derived.Laws.Pointers
import Derived.RegionCalls
import Derived.RegionTactic
import Derived.Tactics
import Derived.Tactics2
import Derived.Test.YtidiojhefjhojaaGreatQ4
import Derived.Test.YtidiojhefjhojaaGreatQ6
import Derived.Test.YtidiojhefjhojaaGreatQ11
section
namespace Go.Proofs.YtidiojhefjhojaaGreat.Enc
open Go Go.RowKit Go.Proofs.YtidiojhefjhojaaGreat.Step
set_option linter.unusedVariables false
set_option linter.unusedSimpArgs false
set_option maxRecDepth 100000
set_option maxHeartbeats 1000000 in
theorem decode_any (a : Int) (ha : W32 a) (w : World) : Calls Tryz.prog 39 #[.int .u32 a] w fun e w' => Says (dec a) e ∧ Below w.heap.size w w' := by
  have T2 := Lib.hid (fun w => calls_below (rd_any a ha w))
  have T3 := Lib.hid (fun w => calls_below (rs1_any a ha w))
  have T4 := Lib.hid (fun w => calls_below (rs2_any a ha w))
  have TO := fun w => calls_below (op_any a ha w)
  unfold dec
  by_cases h : fd a 6 0 = 55
  · have C := decode_55 a (immU a) (fd a 11 7) (fd a 19 15) (fd a 24 20) _ _ _ _ _ _ _ _ _ (Lib.hid (fun w => by have := TO w; rw [h] at this; exact this)) (Lib.hid (fun w => calls_below (u_any a ha w))) T2 T3 T4 (Lib.hid (fun w => plain1 a (fd a 11 7) 0 0 (immU a) w)) w
    rw [h]
    refine C.mono fun e w' k => ⟨⟨⟨1, 0, (fd a 11 7), 0, 0, immU a, 0, false⟩, true, k.1, ?_⟩, k.2⟩
    simp [decOp]
  have n55 := h
  clear h
  by_cases h : fd a 6 0 = 23
  · have C := decode_23 a (immU a) (fd a 11 7) (fd a 19 15) (fd a 24 20) _ _ _ _ _ _ _ _ _ (Lib.hid (fun w => by have := TO w; rw [h] at this; exact this)) (Lib.hid (fun w => calls_below (u_any a ha w))) T2 T3 T4 (Lib.hid (fun w => plain2 a (fd a 11 7) 0 0 (immU a) w)) w
    rw [h]
    refine C.mono fun e w' k => ⟨⟨⟨2, 0, (fd a 11 7), 0, 0, immU a, 0, false⟩, true, k.1, ?_⟩, k.2⟩
    simp [decOp]
  have n23 := h
  clear h
  by_cases h : fd a 6 0 = 111
  · have C := decode_111 a (immJ a) (fd a 11 7) (fd a 19 15) (fd a 24 20) _ _ _ _ _ _ _ _ _ (Lib.hid (fun w => by have := TO w; rw [h] at this; exact this)) (Lib.hid (fun w => calls_below (j_any a ha w))) T2 T3 T4 (Lib.hid (fun w => plain3 a (fd a 11 7) 0 0 (immJ a) w)) w
    rw [h]
    refine C.mono fun e w' k => ⟨⟨⟨3, 0, (fd a 11 7), 0, 0, immJ a, 0, false⟩, true, k.1, ?_⟩, k.2⟩
    simp [decOp]
  have n111 := h
  clear h
  by_cases h : fd a 6 0 = 103
  · have C := decode_103 a (immI a) (fd a 11 7) (fd a 19 15) (fd a 24 20) _ _ _ _ _ _ _ _ _ (Lib.hid (fun w => by have := TO w; rw [h] at this; exact this)) (Lib.hid (fun w => calls_below (i_any a ha w))) T2 T3 T4 (Lib.hid (fun w => plain4 a (fd a 11 7) (fd a 19 15) 0 (immI a) ha w)) w
    rw [h]
    refine C.mono fun e w' k => ⟨⟨⟨4, 0, (fd a 11 7), (fd a 19 15), 0, immI a, 0, false⟩, ((fd a 14 12) == 0), k.1, ?_⟩, k.2⟩
    simp [decOp]
  have n103 := h
  clear h
  by_cases h : fd a 6 0 = 99
  · have C := decode_99 a (immB a) (fd a 11 7) (fd a 19 15) (fd a 24 20) _ _ _ _ _ _ _ _ _ (Lib.hid (fun w => by have := TO w; rw [h] at this; exact this)) (Lib.hid (fun w => calls_below (b_any a ha w))) T2 T3 T4 (Lib.hid (fun w => plain5 a 0 (fd a 19 15) (fd a 24 20) (immB a) ha w)) w
    rw [h]
    refine C.mono fun e w' k => ⟨⟨⟨5, (pk brL (fd a 14 12)), 0, (fd a 19 15), (fd a 24 20), immB a, 0, false⟩, (pk brL (fd a 14 12) != 0), k.1, ?_⟩, k.2⟩
    simp [decOp]
  have n99 := h
  clear h
  by_cases h : fd a 6 0 = 3
  · have C := decode_3 a (immI a) (fd a 11 7) (fd a 19 15) (fd a 24 20) _ _ _ _ _ _ _ _ _ (Lib.hid (fun w => by have := TO w; rw [h] at this; exact this)) (Lib.hid (fun w => calls_below (i_any a ha w))) T2 T3 T4 (Lib.hid (fun w => plain6 a (fd a 11 7) (fd a 19 15) 0 (immI a) ha w)) w
    rw [h]
    refine C.mono fun e w' k => ⟨⟨⟨6, 0, (fd a 11 7), (fd a 19 15), 0, immI a, (pk ldL (fd a 14 12)), (decide ((fd a 14 12) < 4))⟩, (decide ((fd a 14 12) < 7)), k.1, ?_⟩, k.2⟩
    simp [decOp]
  have n3 := h
  clear h
  by_cases h : fd a 6 0 = 35
  · have C := decode_35 a (immS a) (fd a 11 7) (fd a 19 15) (fd a 24 20) _ _ _ _ _ _ _ _ _ (Lib.hid (fun w => by have := TO w; rw [h] at this; exact this)) (Lib.hid (fun w => calls_below (s_any a ha w))) T2 T3 T4 (Lib.hid (fun w => plain7 a 0 (fd a 19 15) (fd a 24 20) (immS a) ha w)) w
    rw [h]
    refine C.mono fun e w' k => ⟨⟨⟨7, 0, 0, (fd a 19 15), (fd a 24 20), immS a, (pk stL (fd a 14 12)), false⟩, (decide ((fd a 14 12) < 4)), k.1, ?_⟩, k.2⟩
    simp [decOp]
  have n35 := h
  clear h
  by_cases h : fd a 6 0 = 19
  · have C := decode_19 a (immI a) (fd a 11 7) (fd a 19 15) (fd a 24 20) _ _ _ _ _ _ _ _ _ (Lib.hid (fun w => by have := TO w; rw [h] at this; exact this)) (Lib.hid (fun w => calls_below (i_any a ha w))) T2 T3 T4 (Lib.hid (fun w => plain9_13 a (fd a 11 7) (fd a 19 15) (immI a) ha h w)) w
    rw [h]
    refine C.mono fun e w' k => ⟨⟨⟨9, (im13 (fd a 31 26) (fd a 14 12) (fd a 25 20) (immI a)).1, (fd a 11 7), (fd a 19 15), 0, (im13 (fd a 31 26) (fd a 14 12) (fd a 25 20) (immI a)).2.1, 0, false⟩, (im13 (fd a 31 26) (fd a 14 12) (fd a 25 20) (immI a)).2.2, k.1, ?_⟩, k.2⟩
    simp [decOp]
  have n19 := h
  clear h
  by_cases h : fd a 6 0 = 27
  · have C := decode_27 a (immI a) (fd a 11 7) (fd a 19 15) (fd a 24 20) _ _ _ _ _ _ _ _ _ (Lib.hid (fun w => by have := TO w; rw [h] at this; exact this)) (Lib.hid (fun w => calls_below (i_any a ha w))) T2 T3 T4 (Lib.hid (fun w => plain9_1b a (fd a 11 7) (fd a 19 15) (immI a) ha h w)) w
    rw [h]
    refine C.mono fun e w' k => ⟨⟨⟨9, (im1b (fd a 31 25) (fd a 14 12) (fd a 24 20) (immI a)).1, (fd a 11 7), (fd a 19 15), 0, (im1b (fd a 31 25) (fd a 14 12) (fd a 24 20) (immI a)).2.1, 0, false⟩, (im1b (fd a 31 25) (fd a 14 12) (fd a 24 20) (immI a)).2.2, k.1, ?_⟩, k.2⟩
    simp [decOp]
  have n27 := h
  clear h
  by_cases h : fd a 6 0 = 51
  · have C := decode_51 a (0) (fd a 11 7) (fd a 19 15) (fd a 24 20) _ _ _ _ _ _ _ _ _ (Lib.hid (fun w => by have := TO w; rw [h] at this; exact this)) (Lib.hid (fun w => calls_below (none_any a w))) T2 T3 T4 (Lib.hid (fun w => plain8 a (fd a 11 7) (fd a 19 15) (fd a 24 20) (0) ha true h w)) w
    rw [h]
    refine C.mono fun e w' k => ⟨⟨⟨8, (regF true (fd a 31 25) (fd a 14 12)), (fd a 11 7), (fd a 19 15), (fd a 24 20), 0, 0, false⟩, (regF true (fd a 31 25) (fd a 14 12) != 0), k.1, ?_⟩, k.2⟩
    simp [decOp]
  have n51 := h
  clear h
  by_cases h : fd a 6 0 = 59
  · have C := decode_59 a (0) (fd a 11 7) (fd a 19 15) (fd a 24 20) _ _ _ _ _ _ _ _ _ (Lib.hid (fun w => by have := TO w; rw [h] at this; exact this)) (Lib.hid (fun w => calls_below (none_any a w))) T2 T3 T4 (Lib.hid (fun w => plain8 a (fd a 11 7) (fd a 19 15) (fd a 24 20) (0) ha false h w)) w
    rw [h]
    refine C.mono fun e w' k => ⟨⟨⟨8, (regF false (fd a 31 25) (fd a 14 12)), (fd a 11 7), (fd a 19 15), (fd a 24 20), 0, 0, false⟩, (regF false (fd a 31 25) (fd a 14 12) != 0), k.1, ?_⟩, k.2⟩
    simp [decOp]
  have n59 := h
  clear h
  by_cases h : fd a 6 0 = 15
  · have C := decode_15 a (fd a 14 12) (Lib.hid (fun w => by have := TO w; rw [h] at this; exact this)) (Lib.hid (fun w => calls_below (f3_any a ha w))) w
    rw [h]
    refine C.mono fun e w' k => ⟨⟨⟨10, 0, 0, 0, 0, 0, 0, false⟩, (decide (fd a 14 12 < 2)), k.1, ?_⟩, k.2⟩
    simp [decOp]
  have n15 := h
  clear h
  by_cases h : fd a 6 0 = 115
  · have H115 : ∀ (r1 r2 r3 r4 r5 r6 r7 : Int) (r8 r9 : Bool), (∀ w, Calls Tryz.prog 62 #[.int .u32 a] w fun e w' => e = .returned (.tuple #[.agg #[.int .i64 r1, .int .i64 r2, .int .i64 r3, .int .i64 r4, .int .i64 r5, .int .i64 r6, .int .i64 r7, .bool r8], .bool r9]) ∧ Below w.heap.size w w') → sysD a = (if r9 then some ⟨r1, r2, r3, r4, r5, r6, r7, r8⟩ else none) → Calls Tryz.prog 39 #[.int .u32 a] w fun e w' => Says (decOp (fd a 6 0) a) e ∧ Below w.heap.size w w' := by
      intro r1 r2 r3 r4 r5 r6 r7 r8 r9 hc hs
      have C := decode_115 a r1 r2 r3 r4 r5 r6 r7 r8 r9 (Lib.hid (fun w => by have := TO w; rw [h] at this; exact this)) (Lib.hid hc) w
      refine C.mono fun e w' k => ⟨⟨⟨r1, r2, r3, r4, r5, r6, r7, r8⟩, r9, k.1, ?_⟩, k.2⟩
      rw [h, ← hs]
      simp [decOp]
    by_cases l0 : a = 115
    · exact H115 _ _ _ _ _ _ _ _ _ (fun w => by rw [l0]; exact system_11 w) (by simp [sysD, l0])
    by_cases l1 : a = 1048691
    · exact H115 _ _ _ _ _ _ _ _ _ (fun w => by rw [l1]; exact system_12 w) (by simp [sysD, l1])
    by_cases l2 : a = 270532723
    · exact H115 _ _ _ _ _ _ _ _ _ (fun w => by rw [l2]; exact system_18 w) (by simp [sysD, l2])
    by_cases l3 : a = 273678451
    · exact H115 _ _ _ _ _ _ _ _ _ (fun w => by rw [l3]; exact system_19 w) (by simp [sysD, l3])
    by_cases h0 : fd a 14 12 = 0
    · exact H115 _ _ _ _ _ _ _ _ _ (fun w => system_f0 a ha l0 l1 l2 l3 h0 w) (by simp [sysD, l0, l1, l2, l3, h0])
    · exact H115 _ _ _ _ _ _ _ _ _ (fun w => system_csr a ha l0 l1 l2 l3 h0 w) (by rcases Classical.em (pk ([0, 1, 2, 3, 0, 1, 2, 3] : List Int) (fd a 14 12) = 0) with hp | hp <;> simp [sysD, l0, l1, l2, l3, h0, csL, hp])
  have n115 := h
  clear h
  by_cases h : fd a 6 0 = 47
  · have H47 : ∀ (r1 r2 r3 r4 r5 r6 r7 : Int) (r8 r9 : Bool), (∀ w, Calls Tryz.prog 63 #[.int .u32 a] w fun e w' => e = .returned (.tuple #[.agg #[.int .i64 r1, .int .i64 r2, .int .i64 r3, .int .i64 r4, .int .i64 r5, .int .i64 r6, .int .i64 r7, .bool r8], .bool r9]) ∧ Below w.heap.size w w') → atD a = (if r9 then some ⟨r1, r2, r3, r4, r5, r6, r7, r8⟩ else none) → Calls Tryz.prog 39 #[.int .u32 a] w fun e w' => Says (decOp (fd a 6 0) a) e ∧ Below w.heap.size w w' := by
      intro r1 r2 r3 r4 r5 r6 r7 r8 r9 hc hs
      have C := decode_47 a r1 r2 r3 r4 r5 r6 r7 r8 r9 (Lib.hid (fun w => by have := TO w; rw [h] at this; exact this)) (Lib.hid hc) w
      refine C.mono fun e w' k => ⟨⟨⟨r1, r2, r3, r4, r5, r6, r7, r8⟩, r9, k.1, ?_⟩, k.2⟩
      rw [h, ← hs]
      simp [decOp]
    by_cases h2 : fd a 14 12 = 2
    · exact H47 _ _ _ _ _ _ _ _ _ (fun w => atomic_2 a ha h2 w) (by simp [atD, h2])
    by_cases h3 : fd a 14 12 = 3
    · exact H47 _ _ _ _ _ _ _ _ _ (fun w => atomic_3 a ha h3 w) (by simp [atD, h3])
    · exact H47 _ _ _ _ _ _ _ _ _ (fun w => atomic_no a ha h2 h3 w) (by simp [atD, h2, h3])
  have C := decode_none a (fd a 6 0) n55 n23 n111 n103 n99 n3 n35 n19 n27 n51 n59 n15 n115 h (Lib.hid TO) w
  refine C.mono fun e w' k => ⟨⟨Ins.zero, false, k.1, ?_⟩, k.2⟩
  simp [decOp, n55, n23, n111, n103, n99, n3, n35, n19, n27, n51, n59, n15, n115, h]
theorem Decode_any (a : Int) (ha : W32 a) (w : World) : Calls Tryz.prog 21 #[.int .u32 a] w fun e w' => e = .returned (told (dec a)) ∧ Below w.heap.size w w' := by
  have T0 := Lib.hid (decode_any a ha)
  generalize dec a = d at *
  go_enter Tryz.func21, Tryz.ntmps21
  go_wp2_with (first
    | (go_at_call 39; (with_reducible refine (T0.out _).mono ?_); rintro e w' ⟨⟨j, ok, rfl, hd⟩, hb⟩; have st_ := Lib.hid (ST.out.call hb); clear ST hb; have ST := st_; cases j; rename_i r1 r2 r3 r4 r5 r6 r7 r8; simp only [Ins.cells]; cases ok <;> simp only [Bool.false_eq_true, if_false, if_true] at hd <;> subst hd)
    | ((with_reducible refine Step.gate_alloc (t := 74) rfl ?_); refine Step.freshAlloc rfl rfl (alloc_agg zero_inst) ?_; intro g2 w2 b hg hb; have st_ := Lib.hid (ST.out.more b hg hb); clear ST b hg hb; have ST := st_)
    | ((with_reducible refine Step.gate_alloc (t := 74) rfl ?_); refine Step.freshAlloc rfl rfl (alloc_agg zero_inst) ?_; intro g1 w1 b hg hb; have ST := Lib.hid (S1.made b hg hb); clear b hg hb)
    | ((with_reducible refine Step.gate_store (t := 74) rfl ?_); refine Step.storeAll ST.out.one rfl rfl rfl rfl rfl size_inst rfl rfl ?_; intro w3 nb m; have st_ := Lib.hid (ST.out.set1 nb m); clear ST nb m; have ST := st_)
    | ((with_reducible refine Step.gate_store (t := 74) rfl ?_); refine Step.storeAll ST.out.two rfl rfl rfl rfl rfl size_inst rfl rfl ?_; intro w3 nb m; have st_ := Lib.hid (ST.out.set2 nb m); clear ST nb m; have ST := st_)
    | ((with_reducible refine Step.gate_load (t := 74) rfl ?_); refine Step.loadAll ST.out.two rfl rfl rfl Tryz.underlying74 rfl size_inst ?_))
  all_goals refine bodyPost_ret (results_row_tmp rfl _ _ g1 _ _ _ rfl ST.out.one Tryz.underlying74 rfl size_inst) rfl ⟨rfl, ST.out.below⟩
end Go.Proofs.YtidiojhefjhojaaGreat.Enc
end
section
namespace Go.Proofs.YtidiojhefjhojaaGreat.Hart
open Go Go.RowKit Go.Proofs.YtidiojhefjhojaaGreat.Step Go.Proofs.YtidiojhefjhojaaGreat.Enc Go.Proofs.YtidiojhefjhojaaGreat.Kn
open Go.Proofs.YtidiojhefjhojaaGreat.Mem (Ram Grow hasB wholeB num wr)
set_option linter.unusedVariables false
set_option linter.unusedSimpArgs false
set_option maxRecDepth 100000
/-- What instructions do, by their kinds. -/
def kindsE : Array MapEntry := #[{ key := .int .i64 1, val := .func (.func 71) #[] #[], born := 0 }, { key := .int .i64 2, val := .func (.func 72) #[] #[], born := 1 }, { key := .int .i64 3, val := .func (.func 73) #[] #[], born := 2 }, { key := .int .i64 4, val := .func (.func 74) #[] #[], born := 3 }, { key := .int .i64 5, val := .func (.func 75) #[] #[], born := 4 }, { key := .int .i64 6, val := .func (.func 76) #[] #[], born := 5 }, { key := .int .i64 7, val := .func (.func 77) #[] #[], born := 6 }, { key := .int .i64 8, val := .func (.func 78) #[] #[], born := 7 }, { key := .int .i64 9, val := .func (.func 79) #[] #[], born := 8 }, { key := .int .i64 10, val := .func (.func 80) #[] #[], born := 9 }, { key := .int .i64 11, val := .func (.func 81) #[] #[], born := 10 }, { key := .int .i64 12, val := .func (.func 82) #[] #[], born := 11 }, { key := .int .i64 13, val := .func (.func 83) #[] #[], born := 12 }, { key := .int .i64 14, val := .func (.func 84) #[] #[], born := 13 }, { key := .int .i64 15, val := .func (.func 85) #[] #[], born := 14 }, { key := .int .i64 16, val := .func (.func 86) #[] #[], born := 15 }, { key := .int .i64 17, val := .func (.func 87) #[] #[], born := 16 }, { key := .int .i64 18, val := .func (.func 88) #[] #[], born := 17 }, { key := .int .i64 19, val := .func (.func 89) #[] #[], born := 18 }, { key := .int .i64 20, val := .func (.func 90) #[] #[], born := 19 }]
/-- The map of the kinds, and what belongs to the core besides. -/
def KT (r : Nat) (T : World → Prop) : World → Prop := fun w => w.heap[r]? = some (.map kindsE 20) ∧ T w
section
variable {W w' : World} {gs gm n : Nat} {s' : Stp} {tv km : Value} {root vmid base : Int} {mem' : Nat → Int} {F G : Nat → Prop} {T : World → Prop}
theorem Out.drew (h : Out W w' gs s' gm tv root vmid km base n mem' F G T) : Out W { w' with drawn := w'.drawn + 1 } gs s' gm tv root vmid km base n mem' F G T := h.below ⟨rfl, rfl, rfl, Nat.le_refl _, fun _ _ => rfl⟩
theorem Out.core (h : Out W w' gs s' gm tv root vmid km base n mem' F G T) : Blk w' s'.gc (ccells gm tv root vmid 1 km) TC := by obtain ⟨F', a, _⟩ := h; exact a.mc.core
theorem Out.tlb (h : Out W w' gs s' gm tv root vmid km base n mem' F G T) : T w' := by obtain ⟨F', a, _⟩ := h; exact a.mc.tlb
theorem Out.then {F1 : Nat → Prop} {w2 : World} (m : Mod (fun k => k = gs ∨ F k) W w') (c : ∀ k, F1 k → F k ∨ W.heap.size ≤ k) (h : Out w' w2 gs s' gm tv root vmid km base n mem' F1 G T) : Out W w2 gs s' gm tv root vmid km base n mem' F G T := by
  obtain ⟨F2, a2, m2, c2⟩ := h
  exact ⟨F2, a2, m.trans_new m2 fun i hi e => e.imp id fun hf => (c i hf).resolve_right (by omega), fun i hi => (c2 i hi).elim (c i) fun e => .inr (Nat.le_trans m.size e)⟩
end
theorem pl_km : Step.plainT Tryz.prog 99 = true := by kernel_rfl
theorem seq_look {P : Program} {ops : Array Oper} {I : World → Prop} {o : Oper} {rr : List Oper} {a : Act} {K : Act → Prop} {t kt et : TypeId} {m x : Operand} {r i : Nat} {k : Int} {es : Array MapEntry} {c : Nat} {v : Value} (hT : ∀ X, I X → X.heap[r]? = some (.map es c)) (hg : o.guard = none) (ho : o.op = .lookup t m x false) (hm : a.eval m = .map (some r)) (hx : a.eval x = .int .i64 k)
    (ht : P.underlying t = some (.map kt et)) (hk : P.underlying kt = some (.int .i64)) (hf : Instr.findNow (.int .i64) (.int .i64 k) es.toList 0 = some (some (i, v))) (h : Sq.Seq P ops I rr (a.put o.dst v) K) : Sq.Seq P ops I (o :: rr) a K :=
  Sq.seq_val (Sq.wanted_none hg) (fun X hX => by
    have := MapInt.run_look_one (P := P) ht hk hf X (hT X hX)
    simp [execOp, ho, hm, hx, this, Result.andThen]) h
set_option maxHeartbeats 4000000 in
theorem pending_no {W : World} {g : Nat} {s : Stp} (hb : Blk W g (sc s) TS) (hsie : s.was.sie = 0) : Calls Tryz.prog 44 #[.pointer (some ⟨g, 0, none⟩)] W fun e w' => e = .returned (.int .u64 0) ∧ Below W.heap.size W w' := by
  have e0 : bits .and .u64 s.was.sip 0 = 0 := by show IntKind.u64.wrap ((BitVec.ofInt 64 s.was.sip &&& 0).toNat : Int) = 0; first | (simp; done) | (simp; decide)
  have HB := Lib.hid hb
  have ST := Lib.hid (Kn.nil (S := Step.Nil) (W := W))
  clear hb
  go_enter Tryz.func44, Tryz.ntmps44
  go_wp2_with (first
    | ((with_reducible refine Sq.region (id := 1) (I := fun X => Below W.heap.size W X) ?hm4 10 (Below.refl _ _).drew ?hp4 ?hs4); (case hm4 => rfl); (case hp4 => kernel_rfl); intro ops K hops hK; clear hops; dsimp only [List.take]; (repeat (first | (refine Sq.seq_move rfl rfl ?_; simp only [Act.put, Act.eval, Array.getD_eq_getD_getElem?, List.getElem?_toArray, List.getElem?_cons_zero, List.getElem?_cons_succ, Option.getD_some, List.setIfInBounds_toArray, List.set_cons_zero, List.set_cons_succ]) | (refine Sq.seq_check rfl rfl rfl ?_; simp only [Act.put, Act.eval, Array.getD_eq_getD_getElem?, List.getElem?_toArray, List.getElem?_cons_zero, List.getElem?_cons_succ, Option.getD_some, List.setIfInBounds_toArray, List.set_cons_zero, List.set_cons_succ]) | (refine Sq.seq_load (t := 22) (fun X hX => HB.out.below hX) (Sq.wanted_none rfl) rfl rfl pl_u64 (sv_ok _ (by decide)) ?_; simp only [Act.put, Act.eval, Array.getD_eq_getD_getElem?, List.getElem?_toArray, List.getElem?_cons_zero, List.getElem?_cons_succ, Option.getD_some, List.setIfInBounds_toArray, List.set_cons_zero, List.set_cons_succ, sv_dry, sv_now, sv_k, sv_fn, sv_rd, sv_rs1, sv_rs2, sv_imm, sv_sz, sv_sg, sv_long, sv_bits, sv_ek, sv_ea, sv_eva, sv_egpa, sv_ewalk, sv_ewrote, sv_was_pc, sv_was_user, sv_was_on, sv_was_spie, sv_was_spp, sv_was_sum, sv_was_mxr, sv_was_rsv, sv_was_stvec, sv_was_sscr, sv_was_sepc, sv_was_scause, sv_was_stval, sv_was_sie, sv_was_sip, sv_was_satp, sv_was_resv, sv_h_pc, sv_h_user, sv_h_on, sv_h_spie, sv_h_spp, sv_h_sum, sv_h_mxr, sv_h_rsv, sv_h_stvec, sv_h_sscr, sv_h_sepc, sv_h_scause, sv_h_stval, sv_h_sie, sv_h_sip, sv_h_satp, sv_h_resv, sv_c, hsie]) | (refine Sq.seq_load (t := 3) (fun X hX => HB.out.below hX) (Sq.wanted_none rfl) rfl rfl pl_int (sv_ok _ (by decide)) ?_; simp only [Act.put, Act.eval, Array.getD_eq_getD_getElem?, List.getElem?_toArray, List.getElem?_cons_zero, List.getElem?_cons_succ, Option.getD_some, List.setIfInBounds_toArray, List.set_cons_zero, List.set_cons_succ, sv_dry, sv_now, sv_k, sv_fn, sv_rd, sv_rs1, sv_rs2, sv_imm, sv_sz, sv_sg, sv_long, sv_bits, sv_ek, sv_ea, sv_eva, sv_egpa, sv_ewalk, sv_ewrote, sv_was_pc, sv_was_user, sv_was_on, sv_was_spie, sv_was_spp, sv_was_sum, sv_was_mxr, sv_was_rsv, sv_was_stvec, sv_was_sscr, sv_was_sepc, sv_was_scause, sv_was_stval, sv_was_sie, sv_was_sip, sv_was_satp, sv_was_resv, sv_h_pc, sv_h_user, sv_h_on, sv_h_spie, sv_h_spp, sv_h_sum, sv_h_mxr, sv_h_rsv, sv_h_stvec, sv_h_sscr, sv_h_sepc, sv_h_scause, sv_h_stval, sv_h_sie, sv_h_sip, sv_h_satp, sv_h_resv, sv_c, hsie]) | (refine Sq.seq_load (t := 4) (fun X hX => HB.out.below hX) (Sq.wanted_none rfl) rfl rfl pl_bool (sv_ok _ (by decide)) ?_; simp only [Act.put, Act.eval, Array.getD_eq_getD_getElem?, List.getElem?_toArray, List.getElem?_cons_zero, List.getElem?_cons_succ, Option.getD_some, List.setIfInBounds_toArray, List.set_cons_zero, List.set_cons_succ, sv_dry, sv_now, sv_k, sv_fn, sv_rd, sv_rs1, sv_rs2, sv_imm, sv_sz, sv_sg, sv_long, sv_bits, sv_ek, sv_ea, sv_eva, sv_egpa, sv_ewalk, sv_ewrote, sv_was_pc, sv_was_user, sv_was_on, sv_was_spie, sv_was_spp, sv_was_sum, sv_was_mxr, sv_was_rsv, sv_was_stvec, sv_was_sscr, sv_was_sepc, sv_was_scause, sv_was_stval, sv_was_sie, sv_was_sip, sv_was_satp, sv_was_resv, sv_h_pc, sv_h_user, sv_h_on, sv_h_spie, sv_h_spp, sv_h_sum, sv_h_mxr, sv_h_rsv, sv_h_stvec, sv_h_sscr, sv_h_sepc, sv_h_scause, sv_h_stval, sv_h_sie, sv_h_sip, sv_h_satp, sv_h_resv, sv_c, hsie]) | (refine' Sq.seq_pure rfl (fun X => _) _; rotate_left; (first | (go_simp; done) | (go_simp; rfl)); simp only [Act.put, Act.eval, Array.getD_eq_getD_getElem?, List.getElem?_toArray, List.getElem?_cons_zero, List.getElem?_cons_succ, Option.getD_some, List.setIfInBounds_toArray, List.set_cons_zero, List.set_cons_succ]))); refine Sq.seq_nil ?_; refine hK.out _ fun w1 hk => ?_; clear hK; have BW := Lib.hid hk; clear hk; dsimp only [List.drop]))
  go_ret
  exact ⟨rfl, BW.out⟩
def zeroX (s : Stp) : Stp := { s with h := { s.h with x := xup s.h.x 0 0 } }
end Go.Proofs.YtidiojhefjhojaaGreat.Hart
end
section
namespace Go.Proofs.YtidiojhefjhojaaGreat.Hart
open Go Go.RowKit Go.Proofs.YtidiojhefjhojaaGreat.Step Go.Proofs.YtidiojhefjhojaaGreat.Enc Go.Proofs.YtidiojhefjhojaaGreat.Kn
open Go.Proofs.YtidiojhefjhojaaGreat.Mem (Ram Grow hasB wholeB num wr)
set_option linter.unusedVariables false
set_option linter.unusedSimpArgs false
set_option maxRecDepth 100000
set_option maxHeartbeats 8000000 in
theorem fetch_2 {W : World} {gs gm n : Nat} {s : Stp} {tv km : Value} {vmid base : Int} {mem : Nat → Int} {F G : Nat → Prop} {T : World → Prop} (h : Sy W gs s gm tv 0 vmid km base n mem F G T) (hs : s.was.satp / 1152921504606846976 = 0) (hs0 : U64 s.was.satp) (hpc : 0 ≤ s.was.pc ∧ s.was.pc < 18446744073709551616) (h1 : hasB base n s.was.pc 2 = true) (lo v : Int) (elo : num mem (s.was.pc - base).toNat 2 = lo) (hlo : 0 ≤ lo ∧ lo < 65536) (h4 : ¬ lo % 4 = 3) (TX : Hid (∀ w, Calls Tryz.prog 20 #[.int .u16 lo] w fun e w' => e = .returned (.tuple #[.int .u32 v, .bool true]) ∧ Below w.heap.size w w')) :
    Calls Tryz.prog 46 #[.pointer (some ⟨gs, 0, none⟩)] W fun e w' => e = .returned (.tuple #[.int .u32 v, .bool true]) ∧ Blk w' gs (sc ({ s with bits := lo, long := 2 })) TS ∧ Mod (One gs) W w' := by
  have T1 := Lib.hid (fun (W' : World) (s' : Stp) (y : Sy W' gs s' gm tv 0 vmid km base n mem F G T) (e : s'.was = s.was) => load_yes y (by rw [e]; exact hs) (by rw [e]; exact hs0) (va := s.was.pc) (z := 2) (k := 2) rfl ⟨by omega, by omega⟩ (by decide) h1 1)
  rw [elo] at T1
  have TZ := Lib.hid (size_any lo hlo)
  rw [if_neg h4] at TZ
  have e2 : lo % 65536 = lo := by omega
  have HO := Lib.hid h
  have HM := Lib.hid (Mod.refl (One gs) W)
  clear h hs hs0 h1 elo hlo h4 hpc
  go_enter Tryz.func46, Tryz.ntmps46
  go_wp2_with (first
    | (go_at_call 92; (with_reducible refine (T1.out _ _ HO.out rfl).mono ?_); rintro e w' ⟨rfl, hb⟩; replace HO := Lib.hid (HO.out.below hb); replace HM := Lib.hid (HM.out.trans (Mod.of_below hb _)); clear hb)
    | (go_at_call 19; (with_reducible refine (TZ.out _).mono ?_); rintro e w' ⟨rfl, hb⟩; replace HO := Lib.hid (HO.out.below hb); replace HM := Lib.hid (HM.out.trans (Mod.of_below hb _)); clear hb)
    | (go_at_call 20; (with_reducible refine (TX.out _).mono ?_); rintro e w' ⟨rfl, hb⟩; replace HO := Lib.hid (HO.out.below hb); replace HM := Lib.hid (HM.out.trans (Mod.of_below hb _)); clear hb)
    | ((with_reducible refine Step.gate_store (t := 22) rfl ?_); refine Step.store HO.out.step rfl rfl rfl rfl rfl pl_u64 rfl rfl ?_; intro w3 nb m; simp [go_sem, sst_dry, sst_now, sst_k, sst_fn, sst_rd, sst_rs1, sst_rs2, sst_imm, sst_sz, sst_sg, sst_long, sst_bits, sst_ek, sst_ea, sst_eva, sst_egpa, sst_ewalk, sst_ewrote, sst_h_pc, sst_h_user, sst_h_on, sst_h_spie, sst_h_spp, sst_h_sum, sst_h_mxr, sst_h_rsv, sst_h_stvec, sst_h_sscr, sst_h_sepc, sst_h_scause, sst_h_stval, sst_h_sie, sst_h_sip, sst_h_satp, sst_h_resv, sst_h_x0] at nb; replace HO := Lib.hid (HO.out.set nb m rfl); replace HM := Lib.hid (HM.out.trans m); clear nb m)
    | ((with_reducible refine Step.gate_load (t := 22) rfl ?_); refine Step.load HO.out.step rfl rfl rfl pl_u64 (sv_ok _ (by decide)) ?_; simp only [sv_dry, sv_now, sv_k, sv_fn, sv_rd, sv_rs1, sv_rs2, sv_imm, sv_sz, sv_sg, sv_long, sv_bits, sv_ek, sv_ea, sv_eva, sv_egpa, sv_ewalk, sv_ewrote, sv_was_pc, sv_was_user, sv_was_on, sv_was_spie, sv_was_spp, sv_was_sum, sv_was_mxr, sv_was_rsv, sv_was_stvec, sv_was_sscr, sv_was_sepc, sv_was_scause, sv_was_stval, sv_was_sie, sv_was_sip, sv_was_satp, sv_was_resv, sv_h_pc, sv_h_user, sv_h_on, sv_h_spie, sv_h_spp, sv_h_sum, sv_h_mxr, sv_h_rsv, sv_h_stvec, sv_h_sscr, sv_h_sepc, sv_h_scause, sv_h_stval, sv_h_sie, sv_h_sip, sv_h_satp, sv_h_resv, sv_c])
    | ((with_reducible refine Step.gate_load (t := 3) rfl ?_); refine Step.load HO.out.step rfl rfl rfl pl_int (sv_ok _ (by decide)) ?_; simp only [sv_dry, sv_now, sv_k, sv_fn, sv_rd, sv_rs1, sv_rs2, sv_imm, sv_sz, sv_sg, sv_long, sv_bits, sv_ek, sv_ea, sv_eva, sv_egpa, sv_ewalk, sv_ewrote, sv_was_pc, sv_was_user, sv_was_on, sv_was_spie, sv_was_spp, sv_was_sum, sv_was_mxr, sv_was_rsv, sv_was_stvec, sv_was_sscr, sv_was_sepc, sv_was_scause, sv_was_stval, sv_was_sie, sv_was_sip, sv_was_satp, sv_was_resv, sv_h_pc, sv_h_user, sv_h_on, sv_h_spie, sv_h_spp, sv_h_sum, sv_h_mxr, sv_h_rsv, sv_h_stvec, sv_h_sscr, sv_h_sepc, sv_h_scause, sv_h_stval, sv_h_sie, sv_h_sip, sv_h_satp, sv_h_resv, sv_c])
    | ((with_reducible refine Step.gate_load (t := 4) rfl ?_); refine Step.load HO.out.step rfl rfl rfl pl_bool (sv_ok _ (by decide)) ?_; simp only [sv_dry, sv_now, sv_k, sv_fn, sv_rd, sv_rs1, sv_rs2, sv_imm, sv_sz, sv_sg, sv_long, sv_bits, sv_ek, sv_ea, sv_eva, sv_egpa, sv_ewalk, sv_ewrote, sv_was_pc, sv_was_user, sv_was_on, sv_was_spie, sv_was_spp, sv_was_sum, sv_was_mxr, sv_was_rsv, sv_was_stvec, sv_was_sscr, sv_was_sepc, sv_was_scause, sv_was_stval, sv_was_sie, sv_was_sip, sv_was_satp, sv_was_resv, sv_h_pc, sv_h_user, sv_h_on, sv_h_spie, sv_h_spp, sv_h_sum, sv_h_mxr, sv_h_rsv, sv_h_stvec, sv_h_sscr, sv_h_sepc, sv_h_scause, sv_h_stval, sv_h_sie, sv_h_sip, sv_h_satp, sv_h_resv, sv_c]))
  refine bodyPost_ret (results_tmp2 rfl _ _ _) rfl ?_
  exact ⟨rfl, HO.out.step, HM.out⟩
/-- The step behind the fetch and the decoding, of any length. -/
def decL (s : Stp) (bt L : Int) (i : Ins) : Stp := { s with bits := bt, long := L, k := i.k, fn := i.fn, rd := i.rd, rs1 := i.rs1, rs2 := i.rs2, imm := i.imm, sz := i.sz, sg := i.sg, h := { s.h with pc := addW s.was.pc L } }
set_option maxHeartbeats 8000000 in
theorem runL_loads {W : World} {gs gm n r : Nat} {s s2 : Stp} {tv : Value} {vmid base : Int} {mem mem2 : Nat → Int} {F G : Nat → Prop} {T : World → Prop} (h : Sy W gs s gm tv 0 vmid (.map (some r)) base n mem F G (KT r T)) (hsie : s.was.sie = 0) {u bt L : Int}
    (HF : ∀ (W' : World) (F' : Nat → Prop), Sy W' gs s gm tv 0 vmid (.map (some r)) base n mem F' G (KT r T) → Calls Tryz.prog 46 #[.pointer (some ⟨gs, 0, none⟩)] W' fun e w' => e = .returned (.tuple #[.int .u32 u, .bool true]) ∧ Blk w' gs (sc { s with bits := bt, long := L }) TS ∧ Mod (One gs) W' w')
    (fn rd rs1 rs2 imm sz : Int) (sg : Bool) (TD : Hid (∀ w, Calls Tryz.prog 21 #[.int .u32 u] w fun e w' => e = .returned (.tuple #[.agg #[.int .i64 6, .int .i64 fn, .int .i64 rd, .int .i64 rs1, .int .i64 rs2, .int .i64 imm, .int .i64 sz, .bool sg], .bool true]) ∧ Below w.heap.size w w')) (HK : ∀ (W' : World) (F' : Nat → Prop), Sy W' gs (decL s bt L ⟨6, fn, rd, rs1, rs2, imm, sz, sg⟩) gm tv 0 vmid (.map (some r)) base n mem F' G (KT r T) → Calls Tryz.prog 76 #[.pointer (some ⟨gs, 0, none⟩)] W' fun e w' => e = .returned (.tuple #[]) ∧ Out W' w' gs s2 gm tv 0 vmid (.map (some r)) base n mem2 F' G (KT r T)) :
    Calls Tryz.prog 28 #[.pointer (some ⟨gs, 0, none⟩)] W fun e w' => e = .returned (.tuple #[]) ∧ Out W w' gs (zeroX s2) gm tv 0 vmid (.map (some r)) base n mem2 F G (KT r T) := by
  have TP := Lib.hid (fun (W' : World) (hb : Blk W' gs (sc s) TS) => pending_no hb hsie)
  have TF := Lib.hid (fun (W' : World) (ho : Out W W' gs s gm tv 0 vmid (.map (some r)) base n mem F G (KT r T)) => by
    obtain ⟨F1, y, m, c⟩ := ho
    exact (HF W' F1 y).mono fun e w' q => (⟨q.1, Out.set ⟨F1, y, m, c⟩ q.2.1 q.2.2 rfl⟩ : _ ∧ Out W w' gs { s with bits := bt, long := L } gm tv 0 vmid (.map (some r)) base n mem F G (KT r T)))
  have TK := Lib.hid (fun (W' : World) (ho : Out W W' gs (decL s bt L ⟨6, fn, rd, rs1, rs2, imm, sz, sg⟩) gm tv 0 vmid (.map (some r)) base n mem F G (KT r T)) => by
    obtain ⟨F1, y, m, c⟩ := ho
    exact (HK W' F1 y).mono fun e w' q => (⟨q.1, Out.then m c q.2⟩ : _ ∧ Out W w' gs s2 gm tv 0 vmid (.map (some r)) base n mem2 F G (KT r T)))
  have e1 : IntKind.u64.wrap (s.was.pc + L) = addW s.was.pc L := rfl
  have HO := Lib.hid h.out
  clear h hsie HF HK
  go_enter Tryz.func28, Tryz.ntmps28
  go_wp2_with (first
    | (go_at_call 44; (with_reducible refine (TP.out _ HO.out.step).mono ?_); rintro e w' ⟨rfl, hb⟩; replace HO := Lib.hid (HO.out.below hb); clear hb)
    | (go_at_call 46; (with_reducible refine (TF.out _ HO.out).mono ?_); rintro e w' ⟨rfl, ho⟩; replace HO := Lib.hid ho; clear ho)
    | (go_at_call 21; (with_reducible refine (TD.out _).mono ?_); rintro e w' ⟨rfl, hb⟩; replace HO := Lib.hid (HO.out.below hb); clear hb)
    | ((with_reducible refine Step.gate_store (t := 74) rfl ?_); refine Step.storeMid HO.out.step rfl rfl rfl rfl rfl size_inst rfl rfl ?_; intro w3 nb m; rw [lays_i] at nb; replace HO := Lib.hid (HO.out.set (s' := _) nb m rfl); clear nb m)
    | ((with_reducible refine Sq.region (id := 9) (I := fun X => Out W X gs _ gm tv 0 vmid _ base n _ F _ _) ?hm5 11 HO.out.drew ?hp5 ?hs5); (case hm5 => rfl); (case hp5 => kernel_rfl); intro ops K hops hK; clear hops; dsimp only [List.take]; (repeat (first | (refine Sq.seq_move rfl rfl ?_; simp only [Act.put, Act.eval, Array.getD_eq_getD_getElem?, List.getElem?_toArray, List.getElem?_cons_zero, List.getElem?_cons_succ, Option.getD_some, List.setIfInBounds_toArray, List.set_cons_zero, List.set_cons_succ, e1]) | (refine Sq.seq_check rfl rfl rfl ?_; simp only [Act.put, Act.eval, Array.getD_eq_getD_getElem?, List.getElem?_toArray, List.getElem?_cons_zero, List.getElem?_cons_succ, Option.getD_some, List.setIfInBounds_toArray, List.set_cons_zero, List.set_cons_succ, e1]) | (refine Sq.seq_load (t := 22) (fun X hX => hX.step) (Sq.wanted_none rfl) rfl rfl pl_u64 (sv_ok _ (by decide)) ?_; simp only [Act.put, Act.eval, Array.getD_eq_getD_getElem?, List.getElem?_toArray, List.getElem?_cons_zero, List.getElem?_cons_succ, Option.getD_some, List.setIfInBounds_toArray, List.set_cons_zero, List.set_cons_succ, sv_dry, sv_now, sv_k, sv_fn, sv_rd, sv_rs1, sv_rs2, sv_imm, sv_sz, sv_sg, sv_long, sv_bits, sv_ek, sv_ea, sv_eva, sv_egpa, sv_ewalk, sv_ewrote, sv_was_pc, sv_was_user, sv_was_on, sv_was_spie, sv_was_spp, sv_was_sum, sv_was_mxr, sv_was_rsv, sv_was_stvec, sv_was_sscr, sv_was_sepc, sv_was_scause, sv_was_stval, sv_was_sie, sv_was_sip, sv_was_satp, sv_was_resv, sv_h_pc, sv_h_user, sv_h_on, sv_h_spie, sv_h_spp, sv_h_sum, sv_h_mxr, sv_h_rsv, sv_h_stvec, sv_h_sscr, sv_h_sepc, sv_h_scause, sv_h_stval, sv_h_sie, sv_h_sip, sv_h_satp, sv_h_resv, sv_c, e1]) | (refine Sq.seq_load (t := 3) (fun X hX => hX.step) (Sq.wanted_none rfl) rfl rfl pl_int (sv_ok _ (by decide)) ?_; simp only [Act.put, Act.eval, Array.getD_eq_getD_getElem?, List.getElem?_toArray, List.getElem?_cons_zero, List.getElem?_cons_succ, Option.getD_some, List.setIfInBounds_toArray, List.set_cons_zero, List.set_cons_succ, sv_dry, sv_now, sv_k, sv_fn, sv_rd, sv_rs1, sv_rs2, sv_imm, sv_sz, sv_sg, sv_long, sv_bits, sv_ek, sv_ea, sv_eva, sv_egpa, sv_ewalk, sv_ewrote, sv_was_pc, sv_was_user, sv_was_on, sv_was_spie, sv_was_spp, sv_was_sum, sv_was_mxr, sv_was_rsv, sv_was_stvec, sv_was_sscr, sv_was_sepc, sv_was_scause, sv_was_stval, sv_was_sie, sv_was_sip, sv_was_satp, sv_was_resv, sv_h_pc, sv_h_user, sv_h_on, sv_h_spie, sv_h_spp, sv_h_sum, sv_h_mxr, sv_h_rsv, sv_h_stvec, sv_h_sscr, sv_h_sepc, sv_h_scause, sv_h_stval, sv_h_sie, sv_h_sip, sv_h_satp, sv_h_resv, sv_c, e1]) | (refine Sq.seq_load (t := 4) (fun X hX => hX.step) (Sq.wanted_none rfl) rfl rfl pl_bool (sv_ok _ (by decide)) ?_; simp only [Act.put, Act.eval, Array.getD_eq_getD_getElem?, List.getElem?_toArray, List.getElem?_cons_zero, List.getElem?_cons_succ, Option.getD_some, List.setIfInBounds_toArray, List.set_cons_zero, List.set_cons_succ, sv_dry, sv_now, sv_k, sv_fn, sv_rd, sv_rs1, sv_rs2, sv_imm, sv_sz, sv_sg, sv_long, sv_bits, sv_ek, sv_ea, sv_eva, sv_egpa, sv_ewalk, sv_ewrote, sv_was_pc, sv_was_user, sv_was_on, sv_was_spie, sv_was_spp, sv_was_sum, sv_was_mxr, sv_was_rsv, sv_was_stvec, sv_was_sscr, sv_was_sepc, sv_was_scause, sv_was_stval, sv_was_sie, sv_was_sip, sv_was_satp, sv_was_resv, sv_h_pc, sv_h_user, sv_h_on, sv_h_spie, sv_h_spp, sv_h_sum, sv_h_mxr, sv_h_rsv, sv_h_stvec, sv_h_sscr, sv_h_sepc, sv_h_scause, sv_h_stval, sv_h_sie, sv_h_sip, sv_h_satp, sv_h_resv, sv_c, e1]) | (refine Sq.seq_load (t := 51) (fun X hX => hX.step) (Sq.wanted_none rfl) rfl rfl pl_pc (sv_ok _ (by decide)) ?_; simp only [Act.put, Act.eval, Array.getD_eq_getD_getElem?, List.getElem?_toArray, List.getElem?_cons_zero, List.getElem?_cons_succ, Option.getD_some, List.setIfInBounds_toArray, List.set_cons_zero, List.set_cons_succ, sv_c]) | (refine Sq.seq_load (t := 99) (fun X hX => hX.core) (Sq.wanted_none rfl) rfl rfl pl_km cc_kinds ?_; simp only [Act.put, Act.eval, Array.getD_eq_getD_getElem?, List.getElem?_toArray, List.getElem?_cons_zero, List.getElem?_cons_succ, Option.getD_some, List.setIfInBounds_toArray, List.set_cons_zero, List.set_cons_succ]) | (refine' Sq.seq_pure rfl (fun X => _) _; rotate_left; (first | (go_simp; done) | (go_simp; rfl)); simp only [Act.put, Act.eval, Array.getD_eq_getD_getElem?, List.getElem?_toArray, List.getElem?_cons_zero, List.getElem?_cons_succ, Option.getD_some, List.setIfInBounds_toArray, List.set_cons_zero, List.set_cons_succ, e1]))); refine Sq.seq_nil ?_; refine hK.out _ fun w1 hk => ?_; clear hK; replace HO := Lib.hid hk; clear hk; dsimp only [List.drop])
    | ((with_reducible refine Sq.region (id := 10) (I := fun X => Out W X gs _ gm tv 0 vmid _ base n _ F _ _) ?hm6 14 HO.out.drew ?hp6 ?hs6); (case hm6 => rfl); (case hp6 => kernel_rfl); intro ops K hops hK; clear hops; dsimp only [List.take]; (repeat (first | (refine Sq.seq_move rfl rfl ?_; simp only [Act.put, Act.eval, Array.getD_eq_getD_getElem?, List.getElem?_toArray, List.getElem?_cons_zero, List.getElem?_cons_succ, Option.getD_some, List.setIfInBounds_toArray, List.set_cons_zero, List.set_cons_succ]) | (refine Sq.seq_check rfl rfl rfl ?_; simp only [Act.put, Act.eval, Array.getD_eq_getD_getElem?, List.getElem?_toArray, List.getElem?_cons_zero, List.getElem?_cons_succ, Option.getD_some, List.setIfInBounds_toArray, List.set_cons_zero, List.set_cons_succ]) | (refine Sq.seq_load (t := 22) (fun X hX => hX.step) (Sq.wanted_none rfl) rfl rfl pl_u64 (sv_ok _ (by decide)) ?_; simp only [Act.put, Act.eval, Array.getD_eq_getD_getElem?, List.getElem?_toArray, List.getElem?_cons_zero, List.getElem?_cons_succ, Option.getD_some, List.setIfInBounds_toArray, List.set_cons_zero, List.set_cons_succ, sv_dry, sv_now, sv_k, sv_fn, sv_rd, sv_rs1, sv_rs2, sv_imm, sv_sz, sv_sg, sv_long, sv_bits, sv_ek, sv_ea, sv_eva, sv_egpa, sv_ewalk, sv_ewrote, sv_was_pc, sv_was_user, sv_was_on, sv_was_spie, sv_was_spp, sv_was_sum, sv_was_mxr, sv_was_rsv, sv_was_stvec, sv_was_sscr, sv_was_sepc, sv_was_scause, sv_was_stval, sv_was_sie, sv_was_sip, sv_was_satp, sv_was_resv, sv_h_pc, sv_h_user, sv_h_on, sv_h_spie, sv_h_spp, sv_h_sum, sv_h_mxr, sv_h_rsv, sv_h_stvec, sv_h_sscr, sv_h_sepc, sv_h_scause, sv_h_stval, sv_h_sie, sv_h_sip, sv_h_satp, sv_h_resv, sv_c]) | (refine Sq.seq_load (t := 3) (fun X hX => hX.step) (Sq.wanted_none rfl) rfl rfl pl_int (sv_ok _ (by decide)) ?_; simp only [Act.put, Act.eval, Array.getD_eq_getD_getElem?, List.getElem?_toArray, List.getElem?_cons_zero, List.getElem?_cons_succ, Option.getD_some, List.setIfInBounds_toArray, List.set_cons_zero, List.set_cons_succ, sv_dry, sv_now, sv_k, sv_fn, sv_rd, sv_rs1, sv_rs2, sv_imm, sv_sz, sv_sg, sv_long, sv_bits, sv_ek, sv_ea, sv_eva, sv_egpa, sv_ewalk, sv_ewrote, sv_was_pc, sv_was_user, sv_was_on, sv_was_spie, sv_was_spp, sv_was_sum, sv_was_mxr, sv_was_rsv, sv_was_stvec, sv_was_sscr, sv_was_sepc, sv_was_scause, sv_was_stval, sv_was_sie, sv_was_sip, sv_was_satp, sv_was_resv, sv_h_pc, sv_h_user, sv_h_on, sv_h_spie, sv_h_spp, sv_h_sum, sv_h_mxr, sv_h_rsv, sv_h_stvec, sv_h_sscr, sv_h_sepc, sv_h_scause, sv_h_stval, sv_h_sie, sv_h_sip, sv_h_satp, sv_h_resv, sv_c]) | (refine Sq.seq_load (t := 4) (fun X hX => hX.step) (Sq.wanted_none rfl) rfl rfl pl_bool (sv_ok _ (by decide)) ?_; simp only [Act.put, Act.eval, Array.getD_eq_getD_getElem?, List.getElem?_toArray, List.getElem?_cons_zero, List.getElem?_cons_succ, Option.getD_some, List.setIfInBounds_toArray, List.set_cons_zero, List.set_cons_succ, sv_dry, sv_now, sv_k, sv_fn, sv_rd, sv_rs1, sv_rs2, sv_imm, sv_sz, sv_sg, sv_long, sv_bits, sv_ek, sv_ea, sv_eva, sv_egpa, sv_ewalk, sv_ewrote, sv_was_pc, sv_was_user, sv_was_on, sv_was_spie, sv_was_spp, sv_was_sum, sv_was_mxr, sv_was_rsv, sv_was_stvec, sv_was_sscr, sv_was_sepc, sv_was_scause, sv_was_stval, sv_was_sie, sv_was_sip, sv_was_satp, sv_was_resv, sv_h_pc, sv_h_user, sv_h_on, sv_h_spie, sv_h_spp, sv_h_sum, sv_h_mxr, sv_h_rsv, sv_h_stvec, sv_h_sscr, sv_h_sepc, sv_h_scause, sv_h_stval, sv_h_sie, sv_h_sip, sv_h_satp, sv_h_resv, sv_c]) | (refine Sq.seq_load (t := 51) (fun X hX => hX.step) (Sq.wanted_none rfl) rfl rfl pl_pc (sv_ok _ (by decide)) ?_; simp only [Act.put, Act.eval, Array.getD_eq_getD_getElem?, List.getElem?_toArray, List.getElem?_cons_zero, List.getElem?_cons_succ, Option.getD_some, List.setIfInBounds_toArray, List.set_cons_zero, List.set_cons_succ, sv_c]) | (refine Sq.seq_load (t := 99) (fun X hX => hX.core) (Sq.wanted_none rfl) rfl rfl pl_km cc_kinds ?_; simp only [Act.put, Act.eval, Array.getD_eq_getD_getElem?, List.getElem?_toArray, List.getElem?_cons_zero, List.getElem?_cons_succ, Option.getD_some, List.setIfInBounds_toArray, List.set_cons_zero, List.set_cons_succ]) | (refine seq_look (fun X hX => hX.tlb.1) rfl rfl rfl rfl Tryz.underlying99 Tryz.underlying3 (v := .func (.func 76) #[] #[]) (i := 5) rfl ?_; simp only [Act.put, Act.eval, Array.getD_eq_getD_getElem?, List.getElem?_toArray, List.getElem?_cons_zero, List.getElem?_cons_succ, Option.getD_some, List.setIfInBounds_toArray, List.set_cons_zero, List.set_cons_succ]) | (refine' Sq.seq_pure rfl (fun X => _) _; rotate_left; (first | (go_simp; done) | (go_simp; rfl)); simp only [Act.put, Act.eval, Array.getD_eq_getD_getElem?, List.getElem?_toArray, List.getElem?_cons_zero, List.getElem?_cons_succ, Option.getD_some, List.setIfInBounds_toArray, List.set_cons_zero, List.set_cons_succ]))); refine Sq.seq_nil ?_; refine hK.out _ fun w1 hk => ?_; clear hK; replace HO := Lib.hid hk; clear hk; dsimp only [List.drop])
    | (go_at_call 76; (with_reducible refine (TK.out _ HO.out).mono ?_); rintro e w' ⟨rfl, ho⟩; replace HO := Lib.hid ho; clear ho)
    | ((with_reducible refine Step.gate_store (t := 22) rfl ?_); refine Step.store HO.out.step rfl rfl rfl rfl rfl pl_u64 rfl rfl ?_; intro w3 nb m; simp [go_sem, sst_dry, sst_now, sst_k, sst_fn, sst_rd, sst_rs1, sst_rs2, sst_imm, sst_sz, sst_sg, sst_long, sst_bits, sst_ek, sst_ea, sst_eva, sst_egpa, sst_ewalk, sst_ewrote, sst_h_pc, sst_h_user, sst_h_on, sst_h_spie, sst_h_spp, sst_h_sum, sst_h_mxr, sst_h_rsv, sst_h_stvec, sst_h_sscr, sst_h_sepc, sst_h_scause, sst_h_stval, sst_h_sie, sst_h_sip, sst_h_satp, sst_h_resv, sst_h_x0] at nb; replace HO := Lib.hid (HO.out.set (s' := _) nb m rfl); clear nb m)
    | ((with_reducible refine Step.gate_store (t := 3) rfl ?_); refine Step.store HO.out.step rfl rfl rfl rfl rfl pl_int rfl rfl ?_; intro w3 nb m; simp [go_sem, sst_dry, sst_now, sst_k, sst_fn, sst_rd, sst_rs1, sst_rs2, sst_imm, sst_sz, sst_sg, sst_long, sst_bits, sst_ek, sst_ea, sst_eva, sst_egpa, sst_ewalk, sst_ewrote, sst_h_pc, sst_h_user, sst_h_on, sst_h_spie, sst_h_spp, sst_h_sum, sst_h_mxr, sst_h_rsv, sst_h_stvec, sst_h_sscr, sst_h_sepc, sst_h_scause, sst_h_stval, sst_h_sie, sst_h_sip, sst_h_satp, sst_h_resv, sst_h_x0] at nb; replace HO := Lib.hid (HO.out.set (s' := _) nb m rfl); clear nb m)
    | ((with_reducible refine Step.gate_store (t := 4) rfl ?_); refine Step.store HO.out.step rfl rfl rfl rfl rfl pl_bool rfl rfl ?_; intro w3 nb m; simp [go_sem, sst_dry, sst_now, sst_k, sst_fn, sst_rd, sst_rs1, sst_rs2, sst_imm, sst_sz, sst_sg, sst_long, sst_bits, sst_ek, sst_ea, sst_eva, sst_egpa, sst_ewalk, sst_ewrote, sst_h_pc, sst_h_user, sst_h_on, sst_h_spie, sst_h_spp, sst_h_sum, sst_h_mxr, sst_h_rsv, sst_h_stvec, sst_h_sscr, sst_h_sepc, sst_h_scause, sst_h_stval, sst_h_sie, sst_h_sip, sst_h_satp, sst_h_resv, sst_h_x0] at nb; replace HO := Lib.hid (HO.out.set (s' := _) nb m rfl); clear nb m)
    | ((with_reducible refine Step.gate_load (t := 22) rfl ?_); refine Step.load HO.out.step rfl rfl rfl pl_u64 (sv_ok _ (by decide)) ?_; simp only [sv_dry, sv_now, sv_k, sv_fn, sv_rd, sv_rs1, sv_rs2, sv_imm, sv_sz, sv_sg, sv_long, sv_bits, sv_ek, sv_ea, sv_eva, sv_egpa, sv_ewalk, sv_ewrote, sv_was_pc, sv_was_user, sv_was_on, sv_was_spie, sv_was_spp, sv_was_sum, sv_was_mxr, sv_was_rsv, sv_was_stvec, sv_was_sscr, sv_was_sepc, sv_was_scause, sv_was_stval, sv_was_sie, sv_was_sip, sv_was_satp, sv_was_resv, sv_h_pc, sv_h_user, sv_h_on, sv_h_spie, sv_h_spp, sv_h_sum, sv_h_mxr, sv_h_rsv, sv_h_stvec, sv_h_sscr, sv_h_sepc, sv_h_scause, sv_h_stval, sv_h_sie, sv_h_sip, sv_h_satp, sv_h_resv, sv_c, e1])
    | ((with_reducible refine Step.gate_load (t := 3) rfl ?_); refine Step.load HO.out.step rfl rfl rfl pl_int (sv_ok _ (by decide)) ?_; simp only [sv_dry, sv_now, sv_k, sv_fn, sv_rd, sv_rs1, sv_rs2, sv_imm, sv_sz, sv_sg, sv_long, sv_bits, sv_ek, sv_ea, sv_eva, sv_egpa, sv_ewalk, sv_ewrote, sv_was_pc, sv_was_user, sv_was_on, sv_was_spie, sv_was_spp, sv_was_sum, sv_was_mxr, sv_was_rsv, sv_was_stvec, sv_was_sscr, sv_was_sepc, sv_was_scause, sv_was_stval, sv_was_sie, sv_was_sip, sv_was_satp, sv_was_resv, sv_h_pc, sv_h_user, sv_h_on, sv_h_spie, sv_h_spp, sv_h_sum, sv_h_mxr, sv_h_rsv, sv_h_stvec, sv_h_sscr, sv_h_sepc, sv_h_scause, sv_h_stval, sv_h_sie, sv_h_sip, sv_h_satp, sv_h_resv, sv_c, e1])
    | ((with_reducible refine Step.gate_load (t := 4) rfl ?_); refine Step.load HO.out.step rfl rfl rfl pl_bool (sv_ok _ (by decide)) ?_; simp only [sv_dry, sv_now, sv_k, sv_fn, sv_rd, sv_rs1, sv_rs2, sv_imm, sv_sz, sv_sg, sv_long, sv_bits, sv_ek, sv_ea, sv_eva, sv_egpa, sv_ewalk, sv_ewrote, sv_was_pc, sv_was_user, sv_was_on, sv_was_spie, sv_was_spp, sv_was_sum, sv_was_mxr, sv_was_rsv, sv_was_stvec, sv_was_sscr, sv_was_sepc, sv_was_scause, sv_was_stval, sv_was_sie, sv_was_sip, sv_was_satp, sv_was_resv, sv_h_pc, sv_h_user, sv_h_on, sv_h_spie, sv_h_spp, sv_h_sum, sv_h_mxr, sv_h_rsv, sv_h_stvec, sv_h_sscr, sv_h_sepc, sv_h_scause, sv_h_stval, sv_h_sie, sv_h_sip, sv_h_satp, sv_h_resv, sv_c, e1]))
  all_goals (first | go_ret | go_end0 | refine bodyPost_ret (results_none rfl _ _ _) rfl ?_)
  exact ⟨rfl, HO.out⟩
set_option maxHeartbeats 8000000 in
theorem runL_stores {W : World} {gs gm n r : Nat} {s s2 : Stp} {tv : Value} {vmid base : Int} {mem mem2 : Nat → Int} {F G : Nat → Prop} {T : World → Prop} (h : Sy W gs s gm tv 0 vmid (.map (some r)) base n mem F G (KT r T)) (hsie : s.was.sie = 0) {u bt L : Int}
    (HF : ∀ (W' : World) (F' : Nat → Prop), Sy W' gs s gm tv 0 vmid (.map (some r)) base n mem F' G (KT r T) → Calls Tryz.prog 46 #[.pointer (some ⟨gs, 0, none⟩)] W' fun e w' => e = .returned (.tuple #[.int .u32 u, .bool true]) ∧ Blk w' gs (sc { s with bits := bt, long := L }) TS ∧ Mod (One gs) W' w')
    (fn rd rs1 rs2 imm sz : Int) (sg : Bool) (TD : Hid (∀ w, Calls Tryz.prog 21 #[.int .u32 u] w fun e w' => e = .returned (.tuple #[.agg #[.int .i64 7, .int .i64 fn, .int .i64 rd, .int .i64 rs1, .int .i64 rs2, .int .i64 imm, .int .i64 sz, .bool sg], .bool true]) ∧ Below w.heap.size w w')) (HK : ∀ (W' : World) (F' : Nat → Prop), Sy W' gs (decL s bt L ⟨7, fn, rd, rs1, rs2, imm, sz, sg⟩) gm tv 0 vmid (.map (some r)) base n mem F' G (KT r T) → Calls Tryz.prog 77 #[.pointer (some ⟨gs, 0, none⟩)] W' fun e w' => e = .returned (.tuple #[]) ∧ Out W' w' gs s2 gm tv 0 vmid (.map (some r)) base n mem2 F' G (KT r T)) :
    Calls Tryz.prog 28 #[.pointer (some ⟨gs, 0, none⟩)] W fun e w' => e = .returned (.tuple #[]) ∧ Out W w' gs (zeroX s2) gm tv 0 vmid (.map (some r)) base n mem2 F G (KT r T) := by
  have TP := Lib.hid (fun (W' : World) (hb : Blk W' gs (sc s) TS) => pending_no hb hsie)
  have TF := Lib.hid (fun (W' : World) (ho : Out W W' gs s gm tv 0 vmid (.map (some r)) base n mem F G (KT r T)) => by
    obtain ⟨F1, y, m, c⟩ := ho
    exact (HF W' F1 y).mono fun e w' q => (⟨q.1, Out.set ⟨F1, y, m, c⟩ q.2.1 q.2.2 rfl⟩ : _ ∧ Out W w' gs { s with bits := bt, long := L } gm tv 0 vmid (.map (some r)) base n mem F G (KT r T)))
  have TK := Lib.hid (fun (W' : World) (ho : Out W W' gs (decL s bt L ⟨7, fn, rd, rs1, rs2, imm, sz, sg⟩) gm tv 0 vmid (.map (some r)) base n mem F G (KT r T)) => by
    obtain ⟨F1, y, m, c⟩ := ho
    exact (HK W' F1 y).mono fun e w' q => (⟨q.1, Out.then m c q.2⟩ : _ ∧ Out W w' gs s2 gm tv 0 vmid (.map (some r)) base n mem2 F G (KT r T)))
  have e1 : IntKind.u64.wrap (s.was.pc + L) = addW s.was.pc L := rfl
  have HO := Lib.hid h.out
  clear h hsie HF HK
  go_enter Tryz.func28, Tryz.ntmps28
  go_wp2_with (first
    | (go_at_call 44; (with_reducible refine (TP.out _ HO.out.step).mono ?_); rintro e w' ⟨rfl, hb⟩; replace HO := Lib.hid (HO.out.below hb); clear hb)
    | (go_at_call 46; (with_reducible refine (TF.out _ HO.out).mono ?_); rintro e w' ⟨rfl, ho⟩; replace HO := Lib.hid ho; clear ho)
    | (go_at_call 21; (with_reducible refine (TD.out _).mono ?_); rintro e w' ⟨rfl, hb⟩; replace HO := Lib.hid (HO.out.below hb); clear hb)
    | ((with_reducible refine Step.gate_store (t := 74) rfl ?_); refine Step.storeMid HO.out.step rfl rfl rfl rfl rfl size_inst rfl rfl ?_; intro w3 nb m; rw [lays_i] at nb; replace HO := Lib.hid (HO.out.set (s' := _) nb m rfl); clear nb m)
    | ((with_reducible refine Sq.region (id := 9) (I := fun X => Out W X gs _ gm tv 0 vmid _ base n _ F _ _) ?hm7 11 HO.out.drew ?hp7 ?hs7); (case hm7 => rfl); (case hp7 => kernel_rfl); intro ops K hops hK; clear hops; dsimp only [List.take]; (repeat (first | (refine Sq.seq_move rfl rfl ?_; simp only [Act.put, Act.eval, Array.getD_eq_getD_getElem?, List.getElem?_toArray, List.getElem?_cons_zero, List.getElem?_cons_succ, Option.getD_some, List.setIfInBounds_toArray, List.set_cons_zero, List.set_cons_succ, e1]) | (refine Sq.seq_check rfl rfl rfl ?_; simp only [Act.put, Act.eval, Array.getD_eq_getD_getElem?, List.getElem?_toArray, List.getElem?_cons_zero, List.getElem?_cons_succ, Option.getD_some, List.setIfInBounds_toArray, List.set_cons_zero, List.set_cons_succ, e1]) | (refine Sq.seq_load (t := 22) (fun X hX => hX.step) (Sq.wanted_none rfl) rfl rfl pl_u64 (sv_ok _ (by decide)) ?_; simp only [Act.put, Act.eval, Array.getD_eq_getD_getElem?, List.getElem?_toArray, List.getElem?_cons_zero, List.getElem?_cons_succ, Option.getD_some, List.setIfInBounds_toArray, List.set_cons_zero, List.set_cons_succ, sv_dry, sv_now, sv_k, sv_fn, sv_rd, sv_rs1, sv_rs2, sv_imm, sv_sz, sv_sg, sv_long, sv_bits, sv_ek, sv_ea, sv_eva, sv_egpa, sv_ewalk, sv_ewrote, sv_was_pc, sv_was_user, sv_was_on, sv_was_spie, sv_was_spp, sv_was_sum, sv_was_mxr, sv_was_rsv, sv_was_stvec, sv_was_sscr, sv_was_sepc, sv_was_scause, sv_was_stval, sv_was_sie, sv_was_sip, sv_was_satp, sv_was_resv, sv_h_pc, sv_h_user, sv_h_on, sv_h_spie, sv_h_spp, sv_h_sum, sv_h_mxr, sv_h_rsv, sv_h_stvec, sv_h_sscr, sv_h_sepc, sv_h_scause, sv_h_stval, sv_h_sie, sv_h_sip, sv_h_satp, sv_h_resv, sv_c, e1]) | (refine Sq.seq_load (t := 3) (fun X hX => hX.step) (Sq.wanted_none rfl) rfl rfl pl_int (sv_ok _ (by decide)) ?_; simp only [Act.put, Act.eval, Array.getD_eq_getD_getElem?, List.getElem?_toArray, List.getElem?_cons_zero, List.getElem?_cons_succ, Option.getD_some, List.setIfInBounds_toArray, List.set_cons_zero, List.set_cons_succ, sv_dry, sv_now, sv_k, sv_fn, sv_rd, sv_rs1, sv_rs2, sv_imm, sv_sz, sv_sg, sv_long, sv_bits, sv_ek, sv_ea, sv_eva, sv_egpa, sv_ewalk, sv_ewrote, sv_was_pc, sv_was_user, sv_was_on, sv_was_spie, sv_was_spp, sv_was_sum, sv_was_mxr, sv_was_rsv, sv_was_stvec, sv_was_sscr, sv_was_sepc, sv_was_scause, sv_was_stval, sv_was_sie, sv_was_sip, sv_was_satp, sv_was_resv, sv_h_pc, sv_h_user, sv_h_on, sv_h_spie, sv_h_spp, sv_h_sum, sv_h_mxr, sv_h_rsv, sv_h_stvec, sv_h_sscr, sv_h_sepc, sv_h_scause, sv_h_stval, sv_h_sie, sv_h_sip, sv_h_satp, sv_h_resv, sv_c, e1]) | (refine Sq.seq_load (t := 4) (fun X hX => hX.step) (Sq.wanted_none rfl) rfl rfl pl_bool (sv_ok _ (by decide)) ?_; simp only [Act.put, Act.eval, Array.getD_eq_getD_getElem?, List.getElem?_toArray, List.getElem?_cons_zero, List.getElem?_cons_succ, Option.getD_some, List.setIfInBounds_toArray, List.set_cons_zero, List.set_cons_succ, sv_dry, sv_now, sv_k, sv_fn, sv_rd, sv_rs1, sv_rs2, sv_imm, sv_sz, sv_sg, sv_long, sv_bits, sv_ek, sv_ea, sv_eva, sv_egpa, sv_ewalk, sv_ewrote, sv_was_pc, sv_was_user, sv_was_on, sv_was_spie, sv_was_spp, sv_was_sum, sv_was_mxr, sv_was_rsv, sv_was_stvec, sv_was_sscr, sv_was_sepc, sv_was_scause, sv_was_stval, sv_was_sie, sv_was_sip, sv_was_satp, sv_was_resv, sv_h_pc, sv_h_user, sv_h_on, sv_h_spie, sv_h_spp, sv_h_sum, sv_h_mxr, sv_h_rsv, sv_h_stvec, sv_h_sscr, sv_h_sepc, sv_h_scause, sv_h_stval, sv_h_sie, sv_h_sip, sv_h_satp, sv_h_resv, sv_c, e1]) | (refine Sq.seq_load (t := 51) (fun X hX => hX.step) (Sq.wanted_none rfl) rfl rfl pl_pc (sv_ok _ (by decide)) ?_; simp only [Act.put, Act.eval, Array.getD_eq_getD_getElem?, List.getElem?_toArray, List.getElem?_cons_zero, List.getElem?_cons_succ, Option.getD_some, List.setIfInBounds_toArray, List.set_cons_zero, List.set_cons_succ, sv_c]) | (refine Sq.seq_load (t := 99) (fun X hX => hX.core) (Sq.wanted_none rfl) rfl rfl pl_km cc_kinds ?_; simp only [Act.put, Act.eval, Array.getD_eq_getD_getElem?, List.getElem?_toArray, List.getElem?_cons_zero, List.getElem?_cons_succ, Option.getD_some, List.setIfInBounds_toArray, List.set_cons_zero, List.set_cons_succ]) | (refine' Sq.seq_pure rfl (fun X => _) _; rotate_left; (first | (go_simp; done) | (go_simp; rfl)); simp only [Act.put, Act.eval, Array.getD_eq_getD_getElem?, List.getElem?_toArray, List.getElem?_cons_zero, List.getElem?_cons_succ, Option.getD_some, List.setIfInBounds_toArray, List.set_cons_zero, List.set_cons_succ, e1]))); refine Sq.seq_nil ?_; refine hK.out _ fun w1 hk => ?_; clear hK; replace HO := Lib.hid hk; clear hk; dsimp only [List.drop])
    | ((with_reducible refine Sq.region (id := 10) (I := fun X => Out W X gs _ gm tv 0 vmid _ base n _ F _ _) ?hm8 14 HO.out.drew ?hp8 ?hs8); (case hm8 => rfl); (case hp8 => kernel_rfl); intro ops K hops hK; clear hops; dsimp only [List.take]; (repeat (first | (refine Sq.seq_move rfl rfl ?_; simp only [Act.put, Act.eval, Array.getD_eq_getD_getElem?, List.getElem?_toArray, List.getElem?_cons_zero, List.getElem?_cons_succ, Option.getD_some, List.setIfInBounds_toArray, List.set_cons_zero, List.set_cons_succ]) | (refine Sq.seq_check rfl rfl rfl ?_; simp only [Act.put, Act.eval, Array.getD_eq_getD_getElem?, List.getElem?_toArray, List.getElem?_cons_zero, List.getElem?_cons_succ, Option.getD_some, List.setIfInBounds_toArray, List.set_cons_zero, List.set_cons_succ]) | (refine Sq.seq_load (t := 22) (fun X hX => hX.step) (Sq.wanted_none rfl) rfl rfl pl_u64 (sv_ok _ (by decide)) ?_; simp only [Act.put, Act.eval, Array.getD_eq_getD_getElem?, List.getElem?_toArray, List.getElem?_cons_zero, List.getElem?_cons_succ, Option.getD_some, List.setIfInBounds_toArray, List.set_cons_zero, List.set_cons_succ, sv_dry, sv_now, sv_k, sv_fn, sv_rd, sv_rs1, sv_rs2, sv_imm, sv_sz, sv_sg, sv_long, sv_bits, sv_ek, sv_ea, sv_eva, sv_egpa, sv_ewalk, sv_ewrote, sv_was_pc, sv_was_user, sv_was_on, sv_was_spie, sv_was_spp, sv_was_sum, sv_was_mxr, sv_was_rsv, sv_was_stvec, sv_was_sscr, sv_was_sepc, sv_was_scause, sv_was_stval, sv_was_sie, sv_was_sip, sv_was_satp, sv_was_resv, sv_h_pc, sv_h_user, sv_h_on, sv_h_spie, sv_h_spp, sv_h_sum, sv_h_mxr, sv_h_rsv, sv_h_stvec, sv_h_sscr, sv_h_sepc, sv_h_scause, sv_h_stval, sv_h_sie, sv_h_sip, sv_h_satp, sv_h_resv, sv_c]) | (refine Sq.seq_load (t := 3) (fun X hX => hX.step) (Sq.wanted_none rfl) rfl rfl pl_int (sv_ok _ (by decide)) ?_; simp only [Act.put, Act.eval, Array.getD_eq_getD_getElem?, List.getElem?_toArray, List.getElem?_cons_zero, List.getElem?_cons_succ, Option.getD_some, List.setIfInBounds_toArray, List.set_cons_zero, List.set_cons_succ, sv_dry, sv_now, sv_k, sv_fn, sv_rd, sv_rs1, sv_rs2, sv_imm, sv_sz, sv_sg, sv_long, sv_bits, sv_ek, sv_ea, sv_eva, sv_egpa, sv_ewalk, sv_ewrote, sv_was_pc, sv_was_user, sv_was_on, sv_was_spie, sv_was_spp, sv_was_sum, sv_was_mxr, sv_was_rsv, sv_was_stvec, sv_was_sscr, sv_was_sepc, sv_was_scause, sv_was_stval, sv_was_sie, sv_was_sip, sv_was_satp, sv_was_resv, sv_h_pc, sv_h_user, sv_h_on, sv_h_spie, sv_h_spp, sv_h_sum, sv_h_mxr, sv_h_rsv, sv_h_stvec, sv_h_sscr, sv_h_sepc, sv_h_scause, sv_h_stval, sv_h_sie, sv_h_sip, sv_h_satp, sv_h_resv, sv_c]) | (refine Sq.seq_load (t := 4) (fun X hX => hX.step) (Sq.wanted_none rfl) rfl rfl pl_bool (sv_ok _ (by decide)) ?_; simp only [Act.put, Act.eval, Array.getD_eq_getD_getElem?, List.getElem?_toArray, List.getElem?_cons_zero, List.getElem?_cons_succ, Option.getD_some, List.setIfInBounds_toArray, List.set_cons_zero, List.set_cons_succ, sv_dry, sv_now, sv_k, sv_fn, sv_rd, sv_rs1, sv_rs2, sv_imm, sv_sz, sv_sg, sv_long, sv_bits, sv_ek, sv_ea, sv_eva, sv_egpa, sv_ewalk, sv_ewrote, sv_was_pc, sv_was_user, sv_was_on, sv_was_spie, sv_was_spp, sv_was_sum, sv_was_mxr, sv_was_rsv, sv_was_stvec, sv_was_sscr, sv_was_sepc, sv_was_scause, sv_was_stval, sv_was_sie, sv_was_sip, sv_was_satp, sv_was_resv, sv_h_pc, sv_h_user, sv_h_on, sv_h_spie, sv_h_spp, sv_h_sum, sv_h_mxr, sv_h_rsv, sv_h_stvec, sv_h_sscr, sv_h_sepc, sv_h_scause, sv_h_stval, sv_h_sie, sv_h_sip, sv_h_satp, sv_h_resv, sv_c]) | (refine Sq.seq_load (t := 51) (fun X hX => hX.step) (Sq.wanted_none rfl) rfl rfl pl_pc (sv_ok _ (by decide)) ?_; simp only [Act.put, Act.eval, Array.getD_eq_getD_getElem?, List.getElem?_toArray, List.getElem?_cons_zero, List.getElem?_cons_succ, Option.getD_some, List.setIfInBounds_toArray, List.set_cons_zero, List.set_cons_succ, sv_c]) | (refine Sq.seq_load (t := 99) (fun X hX => hX.core) (Sq.wanted_none rfl) rfl rfl pl_km cc_kinds ?_; simp only [Act.put, Act.eval, Array.getD_eq_getD_getElem?, List.getElem?_toArray, List.getElem?_cons_zero, List.getElem?_cons_succ, Option.getD_some, List.setIfInBounds_toArray, List.set_cons_zero, List.set_cons_succ]) | (refine seq_look (fun X hX => hX.tlb.1) rfl rfl rfl rfl Tryz.underlying99 Tryz.underlying3 (v := .func (.func 77) #[] #[]) (i := 6) rfl ?_; simp only [Act.put, Act.eval, Array.getD_eq_getD_getElem?, List.getElem?_toArray, List.getElem?_cons_zero, List.getElem?_cons_succ, Option.getD_some, List.setIfInBounds_toArray, List.set_cons_zero, List.set_cons_succ]) | (refine' Sq.seq_pure rfl (fun X => _) _; rotate_left; (first | (go_simp; done) | (go_simp; rfl)); simp only [Act.put, Act.eval, Array.getD_eq_getD_getElem?, List.getElem?_toArray, List.getElem?_cons_zero, List.getElem?_cons_succ, Option.getD_some, List.setIfInBounds_toArray, List.set_cons_zero, List.set_cons_succ]))); refine Sq.seq_nil ?_; refine hK.out _ fun w1 hk => ?_; clear hK; replace HO := Lib.hid hk; clear hk; dsimp only [List.drop])
    | (go_at_call 77; (with_reducible refine (TK.out _ HO.out).mono ?_); rintro e w' ⟨rfl, ho⟩; replace HO := Lib.hid ho; clear ho)
    | ((with_reducible refine Step.gate_store (t := 22) rfl ?_); refine Step.store HO.out.step rfl rfl rfl rfl rfl pl_u64 rfl rfl ?_; intro w3 nb m; simp [go_sem, sst_dry, sst_now, sst_k, sst_fn, sst_rd, sst_rs1, sst_rs2, sst_imm, sst_sz, sst_sg, sst_long, sst_bits, sst_ek, sst_ea, sst_eva, sst_egpa, sst_ewalk, sst_ewrote, sst_h_pc, sst_h_user, sst_h_on, sst_h_spie, sst_h_spp, sst_h_sum, sst_h_mxr, sst_h_rsv, sst_h_stvec, sst_h_sscr, sst_h_sepc, sst_h_scause, sst_h_stval, sst_h_sie, sst_h_sip, sst_h_satp, sst_h_resv, sst_h_x0] at nb; replace HO := Lib.hid (HO.out.set (s' := _) nb m rfl); clear nb m)
    | ((with_reducible refine Step.gate_store (t := 3) rfl ?_); refine Step.store HO.out.step rfl rfl rfl rfl rfl pl_int rfl rfl ?_; intro w3 nb m; simp [go_sem, sst_dry, sst_now, sst_k, sst_fn, sst_rd, sst_rs1, sst_rs2, sst_imm, sst_sz, sst_sg, sst_long, sst_bits, sst_ek, sst_ea, sst_eva, sst_egpa, sst_ewalk, sst_ewrote, sst_h_pc, sst_h_user, sst_h_on, sst_h_spie, sst_h_spp, sst_h_sum, sst_h_mxr, sst_h_rsv, sst_h_stvec, sst_h_sscr, sst_h_sepc, sst_h_scause, sst_h_stval, sst_h_sie, sst_h_sip, sst_h_satp, sst_h_resv, sst_h_x0] at nb; replace HO := Lib.hid (HO.out.set (s' := _) nb m rfl); clear nb m)
    | ((with_reducible refine Step.gate_store (t := 4) rfl ?_); refine Step.store HO.out.step rfl rfl rfl rfl rfl pl_bool rfl rfl ?_; intro w3 nb m; simp [go_sem, sst_dry, sst_now, sst_k, sst_fn, sst_rd, sst_rs1, sst_rs2, sst_imm, sst_sz, sst_sg, sst_long, sst_bits, sst_ek, sst_ea, sst_eva, sst_egpa, sst_ewalk, sst_ewrote, sst_h_pc, sst_h_user, sst_h_on, sst_h_spie, sst_h_spp, sst_h_sum, sst_h_mxr, sst_h_rsv, sst_h_stvec, sst_h_sscr, sst_h_sepc, sst_h_scause, sst_h_stval, sst_h_sie, sst_h_sip, sst_h_satp, sst_h_resv, sst_h_x0] at nb; replace HO := Lib.hid (HO.out.set (s' := _) nb m rfl); clear nb m)
    | ((with_reducible refine Step.gate_load (t := 22) rfl ?_); refine Step.load HO.out.step rfl rfl rfl pl_u64 (sv_ok _ (by decide)) ?_; simp only [sv_dry, sv_now, sv_k, sv_fn, sv_rd, sv_rs1, sv_rs2, sv_imm, sv_sz, sv_sg, sv_long, sv_bits, sv_ek, sv_ea, sv_eva, sv_egpa, sv_ewalk, sv_ewrote, sv_was_pc, sv_was_user, sv_was_on, sv_was_spie, sv_was_spp, sv_was_sum, sv_was_mxr, sv_was_rsv, sv_was_stvec, sv_was_sscr, sv_was_sepc, sv_was_scause, sv_was_stval, sv_was_sie, sv_was_sip, sv_was_satp, sv_was_resv, sv_h_pc, sv_h_user, sv_h_on, sv_h_spie, sv_h_spp, sv_h_sum, sv_h_mxr, sv_h_rsv, sv_h_stvec, sv_h_sscr, sv_h_sepc, sv_h_scause, sv_h_stval, sv_h_sie, sv_h_sip, sv_h_satp, sv_h_resv, sv_c, e1])
    | ((with_reducible refine Step.gate_load (t := 3) rfl ?_); refine Step.load HO.out.step rfl rfl rfl pl_int (sv_ok _ (by decide)) ?_; simp only [sv_dry, sv_now, sv_k, sv_fn, sv_rd, sv_rs1, sv_rs2, sv_imm, sv_sz, sv_sg, sv_long, sv_bits, sv_ek, sv_ea, sv_eva, sv_egpa, sv_ewalk, sv_ewrote, sv_was_pc, sv_was_user, sv_was_on, sv_was_spie, sv_was_spp, sv_was_sum, sv_was_mxr, sv_was_rsv, sv_was_stvec, sv_was_sscr, sv_was_sepc, sv_was_scause, sv_was_stval, sv_was_sie, sv_was_sip, sv_was_satp, sv_was_resv, sv_h_pc, sv_h_user, sv_h_on, sv_h_spie, sv_h_spp, sv_h_sum, sv_h_mxr, sv_h_rsv, sv_h_stvec, sv_h_sscr, sv_h_sepc, sv_h_scause, sv_h_stval, sv_h_sie, sv_h_sip, sv_h_satp, sv_h_resv, sv_c, e1])
    | ((with_reducible refine Step.gate_load (t := 4) rfl ?_); refine Step.load HO.out.step rfl rfl rfl pl_bool (sv_ok _ (by decide)) ?_; simp only [sv_dry, sv_now, sv_k, sv_fn, sv_rd, sv_rs1, sv_rs2, sv_imm, sv_sz, sv_sg, sv_long, sv_bits, sv_ek, sv_ea, sv_eva, sv_egpa, sv_ewalk, sv_ewrote, sv_was_pc, sv_was_user, sv_was_on, sv_was_spie, sv_was_spp, sv_was_sum, sv_was_mxr, sv_was_rsv, sv_was_stvec, sv_was_sscr, sv_was_sepc, sv_was_scause, sv_was_stval, sv_was_sie, sv_was_sip, sv_was_satp, sv_was_resv, sv_h_pc, sv_h_user, sv_h_on, sv_h_spie, sv_h_spp, sv_h_sum, sv_h_mxr, sv_h_rsv, sv_h_stvec, sv_h_sscr, sv_h_sepc, sv_h_scause, sv_h_stval, sv_h_sie, sv_h_sip, sv_h_satp, sv_h_resv, sv_c, e1]))
  all_goals (first | go_ret | go_end0 | refine bodyPost_ret (results_none rfl _ _ _) rfl ?_)
  exact ⟨rfl, HO.out⟩
end Go.Proofs.YtidiojhefjhojaaGreat.Hart
end
section
namespace Go.Proofs.YtidiojhefjhojaaGreat.Hart
open Go Go.RowKit Go.Proofs.YtidiojhefjhojaaGreat.Step Go.Proofs.YtidiojhefjhojaaGreat.Enc Go.Proofs.YtidiojhefjhojaaGreat.Kn
set_option linter.unusedVariables false
set_option linter.unusedSimpArgs false
set_option maxRecDepth 100000
def ccg (gm : Nat) (tv : Value) (root vmid done st : Int) (km : Value) : Array Value := #[.pointer (some ⟨gm, 0, none⟩), tv, .int .u64 root, .int .i64 vmid, .int .u32 done, .int .i32 st, .int .u32 0, km]
theorem disable (w : World) : (callFunc 159 #[]).run Tryz.prog w = .ok (.value (.tuple #[])) w := run_call_mark0 Tryz.func159 (by kernel_rfl) (by kernel_rfl) (by kernel_rfl) .disable (by kernel_rfl) w
theorem enable (w : World) : (callFunc 161 #[]).run Tryz.prog w = .ok (.value (.tuple #[])) w := run_call_mark0 Tryz.func161 (by kernel_rfl) (by kernel_rfl) (by kernel_rfl) .enable (by kernel_rfl) w
theorem acquire (a : Addr) (w : World) : (callFunc 162 #[.pointer (some a)]).run Tryz.prog w = .ok (.value (.tuple #[])) w := run_call_marked Tryz.func162 (by kernel_rfl) (by kernel_rfl) (by kernel_rfl) .acquire (by kernel_rfl) a w
theorem releaseMerge (a : Addr) (w : World) : (callFunc 164 #[.pointer (some a)]).run Tryz.prog w = .ok (.value (.tuple #[])) w := run_call_marked Tryz.func164 (by kernel_rfl) (by kernel_rfl) (by kernel_rfl) .releaseMerge (by kernel_rfl) a w
theorem ilock (a : Addr) (w : World) (hc : w.cell? a = some (.int .i32 0)) (hz : w.frozen? a = false) :
    Calls Tryz.prog 149 #[.pointer (some a)] w fun e w' => e = .returned (.tuple #[]) ∧ w' = w.setCell a (.int .i32 1) := by
  have hd := disable
  have he := enable
  have ha := acquire
  have hcas := run_call_cas_hit (P := Tryz.prog) Tryz.func160 (by kernel_rfl) (by kernel_rfl) (by kernel_rfl) .i32 (by kernel_rfl) (y := 1) hc hz
  have hc' : (w.setCell a (.int .i32 1)).cell? a = some (.int .i32 1) := World.cell?_setCell_same w a _ hc
  have hcv := run_convert_to_unsafe (P := Tryz.prog) (src := 202) (dst := 206) Tryz.underlying202 Tryz.underlying206 (by kernel_rfl) hc'
  go_enter Tryz.func149, Tryz.ntmps149
  go_wp2
  all_goals (first | go_end0 | (simp only [Exit.inBlock, Exit.then]; refine bodyPost_ret (results_none rfl _ _ _) rfl ?_) | refine bodyPost_ret (results_none rfl _ _ _) rfl ?_)
  all_goals exact ⟨rfl, rfl⟩
theorem iunlock (a : Addr) (w : World) (hc : w.cell? a = some (.int .i32 1)) (hz : w.frozen? a = false) :
    Calls Tryz.prog 150 #[.pointer (some a)] w fun e w' => e = .returned (.tuple #[]) ∧ w' = w.setCell a (.int .i32 0) := by
  have hd := disable
  have he := enable
  have hr := releaseMerge
  have hadd := run_call_add (P := Tryz.prog) Tryz.func165 (by kernel_rfl) (by kernel_rfl) (by kernel_rfl) .i32 (by kernel_rfl) (y := -1) (s := 0) hc hz (by simp [go_sem]; rfl)
  have hcv := run_convert_to_unsafe (P := Tryz.prog) (src := 202) (dst := 206) Tryz.underlying202 Tryz.underlying206 (by kernel_rfl) hc
  go_enter Tryz.func150, Tryz.ntmps150
  go_wp2
  all_goals go_end0
  all_goals exact ⟨rfl, rfl⟩
theorem lock {w : World} {gc gm : Nat} {tv km : Value} {root vmid done : Int} (hb : Blk w gc (ccg gm tv root vmid done 0 km) TC) : Calls Tryz.prog 128 #[.pointer (some ⟨gc, 5, none⟩)] w fun e w' => e = .returned (.tuple #[]) ∧ Blk w' gc (ccg gm tv root vmid done 1 km) TC ∧ Mod (One gc) w w' := by
  have T0 := Lib.hid (ilock ⟨gc, 5, none⟩ w ((hb.cell 5).trans rfl) (hb.frozen 5))
  have HB := Lib.hid hb
  clear hb
  go_enter Tryz.func128, Tryz.ntmps128
  go_wp2_with (go_at_call 149; (with_reducible refine (T0.out).mono ?_); rintro e w' ⟨rfl, hw⟩; have HW := Lib.hid hw; clear hw)
  all_goals go_end0
  have e := HW.out
  subst e
  exact ⟨rfl, setCell_out _ _ _ _ _ _ HB.out, setCell_mod _ _ _ _⟩
theorem unlock {w : World} {gc gm : Nat} {tv km : Value} {root vmid done : Int} (hb : Blk w gc (ccg gm tv root vmid done 1 km) TC) (u : FrameMode) : CallsD Tryz.prog 129 #[.pointer (some ⟨gc, 5, none⟩)] u w fun e u' w' => u' = u ∧ (e = .returned (.tuple #[]) ∧ Blk w' gc (ccg gm tv root vmid done 0 km) TC ∧ Mod (One gc) w w') := by
  have T0 := Lib.hid (iunlock ⟨gc, 5, none⟩ w ((hb.cell 5).trans rfl) (hb.frozen 5))
  have HB := Lib.hid hb
  clear hb
  go_enter_d Tryz.func129, Tryz.ntmps129
  go_wp2_with (go_at_call 150; (with_reducible refine (T0.out).mono ?_); rintro e w' ⟨rfl, hw⟩; have HW := Lib.hid hw; clear hw)
  all_goals go_end0
  have e := HW.out
  subst e
  exact ⟨rfl, setCell_out _ _ _ _ _ _ HB.out, setCell_mod _ _ _ _⟩
theorem isDone {w : World} {gc gm : Nat} {tv km : Value} {root vmid done st : Int} (hb : Blk w gc (ccg gm tv root vmid done st km) TC) (b : Bool) (hd : (done != 0) = b) : Calls Tryz.prog 69 #[.pointer (some ⟨gc, 4, none⟩)] w fun e w' => e = .returned (.bool b) ∧ w' = w := by
  have hl := run_call_load (P := Tryz.prog) Tryz.func127 (by kernel_rfl) (by kernel_rfl) (by kernel_rfl) .u32 (by kernel_rfl) (w := w) (a := ⟨gc, 4, none⟩) (x := done) ((hb.cell 4).trans rfl)
  clear hb
  go_enter Tryz.func69, Tryz.ntmps69
  go_wp2
  go_ret
  exact ⟨rfl, rfl⟩
theorem setDone {w : World} {gc gm : Nat} {tv km : Value} {root vmid done st : Int} (hb : Blk w gc (ccg gm tv root vmid done st km) TC) (u : FrameMode) : CallsD Tryz.prog 130 #[.pointer (some ⟨gc, 4, none⟩), .bool true] u w fun e u' w' => u' = u ∧ (e = .returned (.tuple #[]) ∧ Blk w' gc (ccg gm tv root vmid 1 st km) TC ∧ Mod (One gc) w w') := by
  have hc : w.drew.cell? ⟨gc, 4, none⟩ = some (.int .u32 done) := by rw [World.cell?_drew]; exact (hb.cell 4).trans rfl
  have hz : w.drew.frozen? ⟨gc, 4, none⟩ = false := hb.frozen 4
  have hst := run_call_store (P := Tryz.prog) Tryz.func151 (by kernel_rfl) (by kernel_rfl) (by kernel_rfl) (by kernel_rfl) (k := .u32) (y := 1) hc hz
  have HB := Lib.hid (show Blk w.drew gc (ccg gm tv root vmid done st km) TC from hb.below ⟨rfl, rfl, rfl, Nat.le_refl _, fun _ _ => rfl⟩)
  clear hb
  go_enter_d Tryz.func130, Tryz.ntmps130
  go_wp2
  go_region_calls
  all_goals (go_end0; exact ⟨rfl, setCell_out _ _ _ _ _ _ HB.out, (Mod.of_below (Below.drew (Below.refl _ _)) _).trans (setCell_mod _ _ _ _)⟩)
def kindE (n : Nat) : Array MapEntry := (kindsE.toList.take n).toArray
theorem kind_put (n : Nat) (k : Int) (v : Value) (hf : Instr.findNow (.int .i64) (.int .i64 k) (kindE n).toList 0 = some none) (he : (kindE n).push { key := .int .i64 k, val := v, born := n } = kindE (n + 1)) (W : World) :
    (Instr.mapUpdate 99 (.map (some W.heap.size)) (.int .i64 k) v).run Tryz.prog (W.alloc (.map (kindE n) n)) = .ok () (W.alloc (.map (kindE (n + 1)) (n + 1))) := by
  rw [← he]; exact MapInt.run_put Tryz.underlying99 Tryz.underlying3 _ _ _ _ hf W
theorem kind_make (W : World) : (Instr.makeMap 99 none).run Tryz.prog W = .ok (.map (some W.heap.size)) (W.alloc (.map (kindE 0) 0)) := by rfl
set_option maxHeartbeats 4000000 in
theorem kinds_calls (w : World) : Calls Tryz.prog 42 #[] w fun e w' => e = .returned (.map (some w.heap.size)) ∧ Below w.heap.size w w' ∧ w'.heap[w.heap.size]? = some (.map kindsE 20) := by
  have h0 := kind_make
  have g0 := kind_put 0 1 (.func (.func 71) #[] #[]) rfl rfl
  have g1 := kind_put 1 2 (.func (.func 72) #[] #[]) rfl rfl
  have g2 := kind_put 2 3 (.func (.func 73) #[] #[]) rfl rfl
  have g3 := kind_put 3 4 (.func (.func 74) #[] #[]) rfl rfl
  have g4 := kind_put 4 5 (.func (.func 75) #[] #[]) rfl rfl
  have g5 := kind_put 5 6 (.func (.func 76) #[] #[]) rfl rfl
  have g6 := kind_put 6 7 (.func (.func 77) #[] #[]) rfl rfl
  have g7 := kind_put 7 8 (.func (.func 78) #[] #[]) rfl rfl
  have g8 := kind_put 8 9 (.func (.func 79) #[] #[]) rfl rfl
  have g9 := kind_put 9 10 (.func (.func 80) #[] #[]) rfl rfl
  have g10 := kind_put 10 11 (.func (.func 81) #[] #[]) rfl rfl
  have g11 := kind_put 11 12 (.func (.func 82) #[] #[]) rfl rfl
  have g12 := kind_put 12 13 (.func (.func 83) #[] #[]) rfl rfl
  have g13 := kind_put 13 14 (.func (.func 84) #[] #[]) rfl rfl
  have g14 := kind_put 14 15 (.func (.func 85) #[] #[]) rfl rfl
  have g15 := kind_put 15 16 (.func (.func 86) #[] #[]) rfl rfl
  have g16 := kind_put 16 17 (.func (.func 87) #[] #[]) rfl rfl
  have g17 := kind_put 17 18 (.func (.func 88) #[] #[]) rfl rfl
  have g18 := kind_put 18 19 (.func (.func 89) #[] #[]) rfl rfl
  have g19 := kind_put 19 20 (.func (.func 90) #[] #[]) rfl rfl
  go_enter Tryz.func42, Tryz.ntmps42
  go_wp2
  go_ret
  exact ⟨rfl, alloc_below _ _, (MapKept.heap_alloc _ _).1⟩
set_option maxHeartbeats 4000000 in
theorem closure_calls {W : World} {b : Nat} {gc gm : Nat} {tv km : Value} {root vmid done st : Int} (hx : Blk W b #[.pointer (some ⟨gc, 0, none⟩)] 51) (hb : Blk W gc (ccg gm tv root vmid done st km) TC) : Calls Tryz.prog 41 #[.pointer (some ⟨b, 0, none⟩)] W fun e w' => e = .returned (.tuple #[]) ∧ Blk w' gc (ccg gm tv root vmid done st (.map (some W.heap.size))) TC ∧ Mod (One gc) W w' ∧ w'.heap[W.heap.size]? = some (.map kindsE 20) := by
  have HX := Lib.hid hx
  have HC := Lib.hid hb
  clear hx hb
  go_enter Tryz.func41, Tryz.ntmps41
  go_wp2_with (first
    | ((with_reducible refine Sq.regionJ (id := 0) (J := fun j X => Below W.heap.size W X ∧ (match j with | 0 => X.heap.size = W.heap.size | _ => X.heap[W.heap.size]? = some (.map kindsE 20))) ?hm5 2 [1] [.keep 0 1, .eff 0] ?hi5 ?hp5 ?hf5 ?hs5); (case hm5 => rfl); (case hi5 => exact ⟨(Below.refl _ _).drew, rfl⟩); (case hp5 => kernel_rfl); (case hf5 => kernel_rfl); intro ops K hops hK; clear hops; dsimp only [List.take]; (repeat (first | (refine Sq.seqJ_load (t := 51) (fun j _ _ X hX => HX.out.below hX.1) (Sq.wanted_none rfl) rfl rfl pl_pc (v := .pointer (some ⟨gc, 0, none⟩)) rfl ?_; simp only [Act.put, Act.eval, Array.getD_eq_getD_getElem?, List.getElem?_toArray, List.getElem?_cons_zero, List.getElem?_cons_succ, Option.getD_some, List.setIfInBounds_toArray, List.set_cons_zero, List.set_cons_succ]) | (refine Sq.seqJ_turn (v := .map (some W.heap.size)) 42 rfl (Sq.wanted_none rfl) (fun X => ?_) (fun X hX => (kinds_calls X).mono fun e X' h => ?_) ?_; (focus (first | (go_simp; done) | (go_simp; rfl))); (focus (exact ⟨by rw [h.1, show X.heap.size = W.heap.size from hX.2], below_below hX.1 h.2.1, (show X.heap.size = W.heap.size from hX.2) ▸ h.2.2⟩)); simp only [Act.put, Act.eval, Array.getD_eq_getD_getElem?, List.getElem?_toArray, List.getElem?_cons_zero, List.getElem?_cons_succ, Option.getD_some, List.setIfInBounds_toArray, List.set_cons_zero, List.set_cons_succ]))); refine Sq.seqJ_nil ?_; refine hK.out _ fun w1 hk => ?_; clear hK; have BW := Lib.hid hk.1; have MW := Lib.hid (show w1.heap[W.heap.size]? = some (.map kindsE 20) from hk.2); clear hk; dsimp only [List.drop])
    | ((with_reducible refine Step.gate_store (t := 99) rfl ?_); refine Step.store (v := .map (some W.heap.size)) (HC.out.below BW.out) rfl rfl rfl rfl rfl pl_km rfl rfl ?_; intro w3 nb m; have NB := Lib.hid nb; have NM := Lib.hid m; clear nb m))
  all_goals (first | go_ret | go_end0 | refine bodyPost_ret (results_none rfl _ _ _) rfl ?_)
  have hlt := HC.out.lt
  exact ⟨rfl, NB.out, (Mod.of_below BW.out _).trans NM.out, (NM.out.block _ (Array.getElem?_eq_some_iff.1 MW.out).1 (fun e => by have e' : W.heap.size = gc := e; omega)).trans MW.out⟩
theorem fcall_not (x : Bool) (w : World) : (Op.unary .not (.bool x)).run Tryz.prog w = .ok (.bool (!x)) w := rfl
set_option maxHeartbeats 4000000 in
theorem doSlow {W : World} {b : Nat} {gc gm : Nat} {tv km : Value} {root vmid : Int} (hx : Blk W b #[.pointer (some ⟨gc, 0, none⟩)] 51) (hb : Blk W gc (ccg gm tv root vmid 0 0 km) TC) (hne : b ≠ gc) :
    Calls Tryz.prog 70 #[.pointer (some ⟨gc, 4, none⟩), .func (.func 41) #[] #[.pointer (some ⟨b, 0, none⟩)]] W fun e w' => e = .returned (.tuple #[]) ∧ ∃ r, W.heap.size ≤ r ∧ Blk w' gc (ccg gm tv root vmid 1 0 (.map (some r))) TC ∧ Mod (One gc) W w' ∧ w'.heap[r]? = some (.map kindsE 20) := by
  have hnot := fcall_not
  have HX := Lib.hid hx
  have HC := Lib.hid hb
  have HN := Lib.hid hne
  clear hx hb hne
  go_enter_defers Tryz.func70, Tryz.ntmps70
  go_wp2_with (first
    | (go_at_call 128; (with_reducible refine (lock HC.out).mono ?_); rintro e w' ⟨rfl, nb, m⟩; replace HC := Lib.hid nb; have M1 := Lib.hid m; replace HX := Lib.hid (HX.out.one m HN.out); clear nb m)
    | (go_at_call 69; (with_reducible refine (isDone HC.out false rfl).mono ?_); rintro e w' ⟨rfl, rfl⟩)
    | (go_at_call 41; (with_reducible refine (closure_calls HX.out HC.out).mono ?_); rintro e w' ⟨rfl, nb, m, hk⟩; have HC2 := Lib.hid nb; have M2 := Lib.hid m; have HK := Lib.hid hk; clear nb m hk))
  simp only [bodyPostD]
  refine leaves_cons (f := 130) (args := #[.pointer (some ⟨gc, 4, none⟩), .bool true]) (by simp) (by simp [go_sem]) ?_
  refine (setDone HC2.out .returning).mono ?_
  rintro e u' w'' ⟨rfl, rfl, nb3, m3⟩
  refine leaves_cons (f := 129) (args := #[.pointer (some ⟨gc, 5, none⟩)]) (by simp [settle]) (by simp [go_sem]) ?_
  refine (unlock nb3 _).mono ?_
  rintro e u' w4 ⟨rfl, rfl, nb4, m4⟩
  simp [Leaves, settle, results, Tryz.results70]
  have hk := HK.out
  have hlt := HC.out.lt
  have step : ∀ {x y : World} (r : Nat), gc < r → Mod (One gc) x y → x.heap[r]? = some (.map kindsE 20) → y.heap[r]? = some (.map kindsE 20) := fun r hr m h => (m.block r (Array.getElem?_eq_some_iff.1 h).1 (fun e => by have e' : r = gc := e; omega)).trans h
  exact ⟨_, M1.out.size, nb4, ((M1.out.trans M2.out).trans m3).trans m4, step _ hlt m4 (step _ hlt m3 hk)⟩
end Go.Proofs.YtidiojhefjhojaaGreat.Hart
end
