/- encodeRegister of the program: the first word whose operation it is (written by genencr.py). -/
import Derived.Test.YtdhmfjcijcdnjaaEncB
import Derived.Test.YtdhmfjcijcdnjaaDecA
namespace Go.Proofs.Ytdhmfjcijcdnjaa.Enc
open Go Go.RowKit Go.Proofs.Ytdhmfjcijcdnjaa.Step
set_option linter.unusedVariables false
set_option linter.unusedSimpArgs false
set_option maxRecDepth 100000

def topL : List Int := ([51, 1073741875, 33554483, 59, 1073741883, 33554491] : List Int)
def rgL : List Int := ([1, 3, 4, 5, 6, 7, 9, 10, 2, 0, 0, 0, 0, 8, 0, 0, 11, 12, 13, 14, 15, 16, 17, 18, 19, 21, 0, 0, 0, 22, 0, 0, 20, 0, 0, 0, 0, 23, 0, 0, 24, 0, 0, 0, 25, 26, 27, 28] : List Int)
def rwL : List Int := ([0, 51, 1073741875, 4147, 8243, 12339, 16435, 20531, 1073762355, 24627, 28723, 33554483, 33558579, 33562675, 33566771, 33570867, 33574963, 33579059, 33583155, 59, 1073741883, 4155, 20539, 1073762363, 33554491, 33570875, 33574971, 33579067, 33583163] : List Int)
/-- The word at a top and an f3. -/
def wAt (t f : Nat) : Int := bits .or .u32 (topL.getD t 0) (pt f 3 12)
theorem wAt_ok : ∀ t : Fin 6, ∀ f : Fin 8, (0 ≤ wAt t.val f.val ∧ wAt t.val f.val < 4294967296) ∧ fd (wAt t.val f.val) 6 0 = (if decide (t.val < 3) then 51 else 59) ∧ regF (decide (t.val < 3)) (fd (wAt t.val f.val) 31 25) (fd (wAt t.val f.val) 14 12) = rgL.getD (8 * t.val + f.val) 0 ∧ (rgL.getD (8 * t.val + f.val) 0 ≠ 0 → wAt t.val f.val = pk rwL (rgL.getD (8 * t.val + f.val) 0)) := by
  decide
theorem rg_all : ∀ j : Fin 28, ∃ n : Fin 48, rgL.getD n.val 0 = (j.val : Int) + 1 := by decide
theorem reg_at {t f : Nat} (ht : t < 6) (hf : f < 8) (w : World) : Calls Try.prog 65 #[.int .u32 (wAt t f)] w fun e w' => e = .returned (.int .i64 (rgL.getD (8 * t + f) 0)) ∧ Below w.heap.size w w' := by
  obtain ⟨h1, h2, h3, _⟩ := wAt_ok ⟨t, ht⟩ ⟨f, hf⟩
  have C := register_any (wAt t f) ⟨h1⟩ (decide (t < 3)) h2 w
  rw [h3] at C
  exact C
theorem rw_miss {fn : Int} (h : fn = 0 ∨ ∀ n, n < 48 → rgL.getD n 0 ≠ fn) : pk rwL fn = 0 := by
  unfold pk
  split
  · rfl
  · rename_i h0
    obtain ⟨m, rfl⟩ := Int.eq_ofNat_of_zero_le (show 0 ≤ fn by omega)
    rw [Int.toNat_natCast]
    by_cases h1 : m < 29
    · by_cases h2 : m = 0
      · subst h2; rfl
      · rcases h with h | h
        · omega
        · obtain ⟨n, hn⟩ := rg_all ⟨m - 1, by omega⟩
          exact absurd hn (by have := h n.val n.isLt; simp only []; omega)
    · simp [List.getD, List.getElem?_eq_none (show rwL.length ≤ m by show 29 ≤ m; omega)]
section
variable {P : Program} {ops : Array Oper} {fin : Act} {W : World} {o : Oper}
theorem calm_loadg {t : TypeId} {x : Operand} {g i : Nat} {cs : Array Value} {T : TypeId} {v : Value} (hB : Blk W g cs T) (hg : Region.wanted o (yielded ops fin.tmps) = true) (ho : o.op = .load t x) (hx : fin.eval x = .pointer (some ⟨g, i, none⟩)) (ht : plainT P t = true) (hv : cs[i]? = some v)
    (hp : fin.put o.dst v = fin) : Calm.Calm P ops fin W o :=
  Calm.calm_value_g hg (fun X hX => by
    have := run_load1 (P := P) ht (((hB.below hX).cell i).trans hv)
    simp [execOp, ho, hx, this, Result.andThen]) hp
theorem calm_slotg {t : Nat} (hg : Region.wanted o (yielded ops fin.tmps) = true) (hd : o.dst = some t) (h : ∀ X, (execOp fin.eval o).run P X = .ok (.value (fin.tmps.getD t undef)) X) : Calm.Calm P ops fin W o :=
  Calm.calm_value_g hg (fun X _ => h X) (by rw [hd]; exact put_self fin t)
theorem calm_callgg {f : FuncId} {args : Array Value} {v : Value} {cc : Call} (_ : o.op = .call cc) (hg : Region.wanted o (yielded ops fin.tmps) = true) (h : ∀ X, (execOp fin.eval o).run P X = .ok (.enter f args) X)
    (hc : ∀ X, Calls P f args X fun e X' => e = .returned v ∧ Below X.heap.size X X') (hp : fin.put o.dst v = fin) : Calm.Calm P ops fin W o := Calm.calm_call_g hg h (fun X _ => hc X) hp
end
def u32s (L : List Int) : Array Value := (L.map fun x => Value.int .u32 x).toArray
theorem u32s_at (L : List Int) (k : Nat) (h : k < L.length) : (u32s L)[k]? = some (.int .u32 (L.getD k 0)) := by
  simp [u32s, List.getElem?_map, List.getD, List.getElem?_eq_getElem h]
set_option maxHeartbeats 4000000 in
theorem encR_any (k : Int) (fn rd rs1 rs2 imm sz : Int) (sg : Bool) (w : World) : Calls Try.prog 49 #[.agg #[.int .i64 k, .int .i64 fn, .int .i64 rd, .int .i64 rs1, .int .i64 rs2, .int .i64 imm, .int .i64 sz, .bool sg]] w fun e w' => e = .returned (.int .u32 (pk rwL fn)) ∧ Below w.heap.size w w' := by
  go_enter Try.func49, Try.ntmps49
  go_wp2_with (first
    | ((with_reducible refine Step.gate_build (t := 64) rfl ?_); refine Step.freshSlice (cs := #[.int .u32 51, .int .u32 1073741875, .int .u32 33554483, .int .u32 59, .int .u32 1073741883, .int .u32 33554491]) (T := 22) (n := 6) (m := 6) rfl ?hr ?_; (case hr => first | (go_simp; done) | (go_simp; rfl)); intro g9 w1 b hg hb; have PB := Lib.hid (show Blk w1 g9 (u32s topL) _ from b); replace ST := Lib.hid (ST.out.call hb); clear b hb hg)
    | ((with_reducible refine Step.gate_box (t := 24) rfl ?_); refine Step.fresh (cs := #[.int .i64 k, .int .i64 fn, .int .i64 rd, .int .i64 rs1, .int .i64 rs2, .int .i64 imm, .int .i64 sz, .bool sg]) (T := 24) rfl ?hr ?_; (case hr => first | (go_simp; done) | (go_simp; rfl)); intro g1 w1 b hg hb; have ST := Lib.hid (S1.made b hg hb); clear b hg hb))
  go_loopw [9] (fun i w_ => ∃ t : Nat, t ≤ 6 ∧ i = .int .i64 t ∧ S1 w w_ 24 g1 #[.int .i64 k, .int .i64 fn, .int .i64 rd, .int .i64 rs1, .int .i64 rs2, .int .i64 imm, .int .i64 sz, .bool sg] ∧ Blk w_ g9 (u32s topL) 22 ∧ (fn = 0 ∨ ∀ n, n < 8 * t → rgL.getD n 0 ≠ fn)) (fun i _ => (6 - intOf i).toNat)
  case atStart => exact ⟨0, Nat.zero_le _, rfl, ST.out, PB.out, .inr fun n h => absurd h (by omega)⟩
  case round =>
    clear ST PB
    obtain ⟨t, hkt, rfl, hS, hP, hm⟩ := hrel
    have ST := Lib.hid hS
    have PB := Lib.hid hP
    have HM := Lib.hid hm
    clear hS hP hm
    by_cases hlt : t < 6
    · have hc := (PB.out.cell t).trans (u32s_at topL t hlt)
      obtain ⟨tv, htv⟩ : ∃ tv, topL.getD t 0 = tv := ⟨_, rfl⟩
      rw [htv] at hc
      have HTV := Lib.hid htv
      clear htv
      have hdt : decide ((t : Int) < 6) = true := decide_eq_true (by omega)
      go_wp2
      clear hc
      go_loopw [13] (fun i w_ => ∃ f : Nat, f ≤ 8 ∧ i = .int .i64 f ∧ S1 w w_ 24 g1 #[.int .i64 k, .int .i64 fn, .int .i64 rd, .int .i64 rs1, .int .i64 rs2, .int .i64 imm, .int .i64 sz, .bool sg] ∧ Blk w_ g9 (u32s topL) 22 ∧ (fn = 0 ∨ ∀ n, n < 8 * t + f → rgL.getD n 0 ≠ fn)) (fun i _ => (8 - intOf i).toNat)
      case atStart => exact ⟨0, Nat.zero_le _, rfl, ST.out, PB.out, HM.out⟩
      case round =>
        clear ST PB HM
        obtain ⟨f, hkf, rfl, hS, hP, hm⟩ := hrel
        have ST := Lib.hid hS
        have PB := Lib.hid hP
        have HM := Lib.hid hm
        clear hS hP hm
        by_cases hlf : f < 8
        · have TP := Lib.hid (fun w => calls_same (show Calls Try.prog 46 #[.int .i64 (f : Int), .int .i64 14, .int .i64 12] w fun e w' => e = .returned (.int .u32 (pt (f : Int) 3 12)) ∧ w = w' from put_any (f : Int) 14 12 14 12 rfl rfl (by decide) (by decide) w))
          have TR := Lib.hid (reg_at hlt hlf)
          have HW : bits .or .u32 tv (pt (f : Int) 3 12) = wAt t f := by unfold wAt; rw [HTV.out]
          have HH := Lib.hid (wAt_ok ⟨t, hlt⟩ ⟨f, hlf⟩).2.2.2
          simp only [] at HH
          generalize pt (f : Int) 3 12 = pv at *
          obtain ⟨wv, hwv⟩ : ∃ wv, wAt t f = wv := ⟨_, rfl⟩
          obtain ⟨gv, hgv⟩ : ∃ gv, rgL.getD (8 * t + f) 0 = gv := ⟨_, rfl⟩
          rw [hwv] at HW TR HH
          rw [hgv] at TR HH
          have HG := Lib.hid hgv
          clear hwv hgv
          by_cases h0 : fn = 0
          · have c0 : (fn != 0) = false := by rw [h0]; rfl
            clear h0
            go_wp2_with (first
              | (go_at_call 46; (with_reducible refine (TP.out _).mono ?_); rintro e w' ⟨rfl, hb⟩; replace PB := Lib.hid (PB.out.below hb); replace ST := Lib.hid (ST.out.call hb); clear hb)
              | ((with_reducible refine Calm.region (id := 8) (fin := ?fin_9) ?hm_9 10 [(20, .pointer (some ⟨g1, 1, none⟩)), (21, .int .i64 (fn)), (22, .bool false), (23, .bool false), (24, undef), (25, undef), (26, undef), (27, undef), (28, undef), (29, .bool false)] ?hp_9 ?hin_9 ?hfin_9 ?hcalm_9 ?_); (case hm_9 => rfl); (case hp_9 => kernel_rfl); (case hin_9 => kernel_rfl); (case hfin_9 => (simp only [Reg.puts, Act.put, List.setIfInBounds_toArray, List.set_cons_zero, List.set_cons_succ]; try rfl)); (case hcalm_9 => (simp only [List.take]; (repeat' (first | exact Calm.calm_nil | refine Calm.calm_cons ?_ ?_)); all_goals (first | exact Calm.calm_not rfl rfl | exact calm_loadg ST.out.one rfl rfl rfl pl_int rfl rfl | exact calm_callgg rfl rfl (fun X => by go_simp) (fun X => TR.out X) rfl | exact calm_slotg rfl rfl (fun X => by first | (go_simp; done) | (go_simp; rfl))))); intro w' hb; replace PB := Lib.hid (PB.out.below hb); replace ST := Lib.hid (ST.out.call hb); clear hb; simp only [List.drop]))
            refine ⟨⟨f + 1, by omega, by go_num, ST.out, PB.out, by first | exact .inl (by simpa using c0) | (simp at c0; simp [c0])⟩, by simp [intOf]; omega⟩
          · have c0 : (fn != 0) = true := bne_iff_ne.2 h0
            by_cases hit : gv = fn
            · have c1 : (gv == fn) = true := beq_iff_eq.2 hit
              have HR := Lib.hid (show wv = pk rwL fn from by have := HH.out (by rw [hit]; exact h0); rw [this, hit])
              clear h0 hit HM HH
              go_wp2_with (first
                | (go_at_call 46; (with_reducible refine (TP.out _).mono ?_); rintro e w' ⟨rfl, hb⟩; replace PB := Lib.hid (PB.out.below hb); replace ST := Lib.hid (ST.out.call hb); clear hb)
                | ((with_reducible refine Calm.region (id := 8) (fin := ?fin_10) ?hm_10 10 [(20, .pointer (some ⟨g1, 1, none⟩)), (21, .int .i64 (fn)), (22, .bool true), (23, .bool true), (24, .int .u32 (wv)), (25, .int .i64 (gv)), (26, .pointer (some ⟨g1, 1, none⟩)), (27, .int .i64 (fn)), (28, .bool (gv == fn)), (29, .bool (gv == fn))] ?hp_10 ?hin_10 ?hfin_10 ?hcalm_10 ?_); (case hm_10 => rfl); (case hp_10 => kernel_rfl); (case hin_10 => kernel_rfl); (case hfin_10 => (simp only [Reg.puts, Act.put, List.setIfInBounds_toArray, List.set_cons_zero, List.set_cons_succ]; try rfl)); (case hcalm_10 => (simp only [List.take]; (repeat' (first | exact Calm.calm_nil | refine Calm.calm_cons ?_ ?_)); all_goals (first | exact calm_loadg ST.out.one rfl rfl rfl pl_int rfl rfl | exact calm_callgg rfl rfl (fun X => by go_simp) (fun X => TR.out X) rfl | exact calm_slotg rfl rfl (fun X => by first | (go_simp; done) | (go_simp; rfl))))); intro w' hb; replace PB := Lib.hid (PB.out.below hb); replace ST := Lib.hid (ST.out.call hb); clear hb; simp only [List.drop]))
              go_ret
              exact ⟨by rw [← HR.out]; rfl, ST.out.below⟩
            · have c1 : (gv == fn) = false := beq_eq_false_iff_ne.2 hit
              have HN := Lib.hid hit
              have H0 := Lib.hid h0
              clear h0 hit HH
              go_wp2_with (first
                | (go_at_call 46; (with_reducible refine (TP.out _).mono ?_); rintro e w' ⟨rfl, hb⟩; replace PB := Lib.hid (PB.out.below hb); replace ST := Lib.hid (ST.out.call hb); clear hb)
                | ((with_reducible refine Calm.region (id := 8) (fin := ?fin_11) ?hm_11 10 [(20, .pointer (some ⟨g1, 1, none⟩)), (21, .int .i64 (fn)), (22, .bool true), (23, .bool true), (24, .int .u32 (wv)), (25, .int .i64 (gv)), (26, .pointer (some ⟨g1, 1, none⟩)), (27, .int .i64 (fn)), (28, .bool (gv == fn)), (29, .bool (gv == fn))] ?hp_11 ?hin_11 ?hfin_11 ?hcalm_11 ?_); (case hm_11 => rfl); (case hp_11 => kernel_rfl); (case hin_11 => kernel_rfl); (case hfin_11 => (simp only [Reg.puts, Act.put, List.setIfInBounds_toArray, List.set_cons_zero, List.set_cons_succ]; try rfl)); (case hcalm_11 => (simp only [List.take]; (repeat' (first | exact Calm.calm_nil | refine Calm.calm_cons ?_ ?_)); all_goals (first | exact calm_loadg ST.out.one rfl rfl rfl pl_int rfl rfl | exact calm_callgg rfl rfl (fun X => by go_simp) (fun X => TR.out X) rfl | exact calm_slotg rfl rfl (fun X => by first | (go_simp; done) | (go_simp; rfl))))); intro w' hb; replace PB := Lib.hid (PB.out.below hb); replace ST := Lib.hid (ST.out.call hb); clear hb; simp only [List.drop]))
              have key : fn = 0 ∨ ∀ n, n < 8 * t + (f + 1) → rgL.getD n 0 ≠ fn := by
                refine .inr fun n hn => ?_
                by_cases e : n = 8 * t + f
                · rw [e, HG.out]; exact HN.out
                · rcases HM.out with h | h
                  · exact absurd h H0.out
                  · exact h n (by omega)
              refine ⟨⟨f + 1, by omega, by go_num, ST.out, PB.out, ?_⟩, by simp [intOf]; omega⟩
              first
                | exact key
                | exact key.resolve_left H0.out
                | simpa [H0.out] using key
        · obtain rfl : f = 8 := by omega
          go_wp2
          refine ⟨⟨t + 1, by omega, by go_num, ST.out, PB.out, ?_⟩, by simp [intOf]; omega⟩
          exact HM.out
    · obtain rfl : t = 6 := by omega
      have HR := Lib.hid (rw_miss HM.out)
      clear HM
      go_wp2
      go_ret
      exact ⟨by rw [HR.out]; rfl, ST.out.below⟩
end Go.Proofs.Ytdhmfjcijcdnjaa.Enc
