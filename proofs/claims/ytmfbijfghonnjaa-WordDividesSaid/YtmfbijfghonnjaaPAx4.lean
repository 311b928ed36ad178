/- What the program's functions answer, call by call, and the row of a law; no conditions beyond each theorem's own. Written by a program of this repo (xprint.py, over the kit's printer, with contracts of the session's own). Lean checks it. -/
import Derived.Test.YtmfbijfghonnjaaPAx0
import Derived.Test.YtmfbijfghonnjaaPAx1
import Derived.Test.YtmfbijfghonnjaaPAx2
import Derived.Test.YtmfbijfghonnjaaPAx3
namespace Go.Proofs.Ytmfbijfghonnjaa.PA
open Go.RowKit Go.Proofs.YtmfbijfghonnjaaW.PrintWords Go.Proofs.YtmfbijfghonnjaaW.PrintLast Go.Proofs.YtmfbijfghonnjaaW.PrintMore
attribute [local go_sem] max2_int min2_int max_two min_two max_three min_three max_four min_four   -- for this text's walks alone
set_option linter.unusedVariables false
set_option linter.unusedSimpArgs false

/-! ### citadelref01_Alu: function 16 -/
def citadelref01_Alu.f (k : Nat) (a0 : Int) (a1 : Int) (a2 : Int) : Option (Int) := if a0 = 1 then (some (IntKind.u64.wrap (a1 + a2))) else (if a0 = 2 then (some (IntKind.u64.wrap (a1 - a2))) else (if a0 = 3 then (if 0 ≤ (Int.tmod a2 64) then (some (shl .u64 a1 (Int.tmod a2 64))) else (none)) else (if a0 = 4 then ((citadelref01_less.f a1 a2).bind fun t178 => ((citadelref01_bit.f t178).bind fun t179 => (some t179))) else (if a0 = 5 then ((citadelref01_bit.f (decide (a1 < a2))).bind fun t180 => (some t180)) else (if a0 = 6 then (some (Go.bits .xor .u64 a1 a2)) else (if a0 = 7 then (if 0 ≤ (Int.tmod a2 64) then (some (shr .u64 a1 (Int.tmod a2 64))) else (none)) else (if a0 = 8 then ((citadelref01_sra.f k a1 (Int.tmod a2 64)).bind fun t181 => (some t181)) else (if a0 = 9 then (some (Go.bits .or .u64 a1 a2)) else (if a0 = 10 then (some (Go.bits .and .u64 a1 a2)) else (if a0 = 11 then (some (IntKind.u64.wrap (a1 * a2))) else (if a0 = 12 then ((citadelref01_highSigned.f k a1 true a2 true).bind fun t182 => (some t182)) else (if a0 = 13 then ((citadelref01_highSigned.f k a1 true a2 false).bind fun t183 => (some t183)) else (if a0 = 14 then ((citadelref01_High.f a1 a2).bind fun t184 => (some t184)) else (if a0 = 15 then ((citadelref01_div.f a1 a2).bind fun t185 => (some t185)) else (if a0 = 16 then (if a2 = 0 then (some 18446744073709551615) else (some (IntKind.u64.wrap (Int.tdiv a1 a2)))) else (if a0 = 17 then ((citadelref01_rem.f a1 a2).bind fun t186 => (some t186)) else (if a0 = 18 then (if a2 = 0 then (some a1) else (some (Int.tmod a1 a2))) else (if a0 = 19 then ((citadelref01_W.f (IntKind.u64.wrap (a1 + a2))).bind fun t187 => (some t187)) else (if a0 = 20 then ((citadelref01_W.f (IntKind.u64.wrap (a1 - a2))).bind fun t188 => (some t188)) else (if a0 = 21 then (if 0 ≤ (Int.tmod a2 32) then ((citadelref01_W.f (shl .u64 (Int.tmod a1 4294967296) (Int.tmod a2 32))).bind fun t189 => (some t189)) else (none)) else (if a0 = 22 then (if 0 ≤ (Int.tmod a2 32) then ((citadelref01_W.f (shr .u64 (Int.tmod a1 4294967296) (Int.tmod a2 32))).bind fun t190 => (some t190)) else (none)) else (if a0 = 23 then ((citadelref01_W.f a1).bind fun t191 => ((citadelref01_sra.f k t191 (Int.tmod a2 32)).bind fun t192 => ((citadelref01_W.f t192).bind fun t193 => (some t193)))) else (if a0 = 24 then ((citadelref01_W.f (IntKind.u64.wrap (a1 * a2))).bind fun t194 => (some t194)) else (if a0 = 25 then ((citadelref01_W.f a1).bind fun t195 => ((citadelref01_W.f a2).bind fun t196 => ((citadelref01_div.f t195 t196).bind fun t197 => ((citadelref01_W.f t197).bind fun t198 => (some t198))))) else (if a0 = 26 then (if (Int.tmod a2 4294967296) = 0 then (some 18446744073709551615) else ((citadelref01_W.f (IntKind.u64.wrap (Int.tdiv (Int.tmod a1 4294967296) (Int.tmod a2 4294967296)))).bind fun t199 => (some t199))) else (if a0 = 27 then ((citadelref01_W.f a1).bind fun t200 => ((citadelref01_W.f a2).bind fun t201 => ((citadelref01_rem.f t200 t201).bind fun t202 => ((citadelref01_W.f t202).bind fun t203 => (some t203))))) else (if a0 = 28 then (if (Int.tmod a2 4294967296) = 0 then ((citadelref01_W.f a1).bind fun t204 => (some t204)) else ((citadelref01_W.f (Int.tmod (Int.tmod a1 4294967296) (Int.tmod a2 4294967296))).bind fun t205 => (some t205))) else (some 0))))))))))))))))))))))))))))
theorem citadelref01_Alu.mono : ∀ a0 a1 a2 k, LeO (citadelref01_Alu.f k a0 a1 a2) (citadelref01_Alu.f (k + 1) a0 a1 a2) := by
  intro a0 a1 a2 k
  unfold citadelref01_Alu.f
  repeat' first
      | (with_reducible exact citadelref01_highSigned.mono _ _ _ _ _)
      | (with_reducible exact citadelref01_sra.mono _ _ _)
      | (with_reducible exact LeO.refl _)
      | (with_reducible exact LeO.none _)
      | (with_reducible refine LeO.ite ?_ ?_)
      | (with_reducible refine LeO.bind ?_ (fun _ => ?_))
      | exact citadelref01_highSigned.mono _ _ _ _ _
      | exact citadelref01_sra.mono _ _ _
      | exact LeO.none _
      | refine LeO.ite ?_ ?_
      | refine LeO.bind ?_ (fun _ => ?_)
set_option maxHeartbeats 8000000 in
set_option maxRecDepth 100000 in
theorem citadelref01_Alu.calls (k : Nat) (a0 : Int) (a1 : Int) (a2 : Int) (r : Int) (w : World) (h : citadelref01_Alu.f k a0 a1 a2 = some r) :
    Calls Try.prog 16 #[.int .i64 a0, .int .u64 a1, .int .u64 a2] w fun e w' => e = .returned (.int .u64 r) ∧ Drawn0 w w' := by
  have H : (if a0 = 1 then (some (IntKind.u64.wrap (a1 + a2))) else (if a0 = 2 then (some (IntKind.u64.wrap (a1 - a2))) else (if a0 = 3 then (if 0 ≤ (Int.tmod a2 64) then (some (shl .u64 a1 (Int.tmod a2 64))) else (none)) else (if a0 = 4 then ((citadelref01_less.f a1 a2).bind fun t178 => ((citadelref01_bit.f t178).bind fun t179 => (some t179))) else (if a0 = 5 then ((citadelref01_bit.f (decide (a1 < a2))).bind fun t180 => (some t180)) else (if a0 = 6 then (some (Go.bits .xor .u64 a1 a2)) else (if a0 = 7 then (if 0 ≤ (Int.tmod a2 64) then (some (shr .u64 a1 (Int.tmod a2 64))) else (none)) else (if a0 = 8 then ((citadelref01_sra.f k a1 (Int.tmod a2 64)).bind fun t181 => (some t181)) else (if a0 = 9 then (some (Go.bits .or .u64 a1 a2)) else (if a0 = 10 then (some (Go.bits .and .u64 a1 a2)) else (if a0 = 11 then (some (IntKind.u64.wrap (a1 * a2))) else (if a0 = 12 then ((citadelref01_highSigned.f k a1 true a2 true).bind fun t182 => (some t182)) else (if a0 = 13 then ((citadelref01_highSigned.f k a1 true a2 false).bind fun t183 => (some t183)) else (if a0 = 14 then ((citadelref01_High.f a1 a2).bind fun t184 => (some t184)) else (if a0 = 15 then ((citadelref01_div.f a1 a2).bind fun t185 => (some t185)) else (if a0 = 16 then (if a2 = 0 then (some 18446744073709551615) else (some (IntKind.u64.wrap (Int.tdiv a1 a2)))) else (if a0 = 17 then ((citadelref01_rem.f a1 a2).bind fun t186 => (some t186)) else (if a0 = 18 then (if a2 = 0 then (some a1) else (some (Int.tmod a1 a2))) else (if a0 = 19 then ((citadelref01_W.f (IntKind.u64.wrap (a1 + a2))).bind fun t187 => (some t187)) else (if a0 = 20 then ((citadelref01_W.f (IntKind.u64.wrap (a1 - a2))).bind fun t188 => (some t188)) else (if a0 = 21 then (if 0 ≤ (Int.tmod a2 32) then ((citadelref01_W.f (shl .u64 (Int.tmod a1 4294967296) (Int.tmod a2 32))).bind fun t189 => (some t189)) else (none)) else (if a0 = 22 then (if 0 ≤ (Int.tmod a2 32) then ((citadelref01_W.f (shr .u64 (Int.tmod a1 4294967296) (Int.tmod a2 32))).bind fun t190 => (some t190)) else (none)) else (if a0 = 23 then ((citadelref01_W.f a1).bind fun t191 => ((citadelref01_sra.f k t191 (Int.tmod a2 32)).bind fun t192 => ((citadelref01_W.f t192).bind fun t193 => (some t193)))) else (if a0 = 24 then ((citadelref01_W.f (IntKind.u64.wrap (a1 * a2))).bind fun t194 => (some t194)) else (if a0 = 25 then ((citadelref01_W.f a1).bind fun t195 => ((citadelref01_W.f a2).bind fun t196 => ((citadelref01_div.f t195 t196).bind fun t197 => ((citadelref01_W.f t197).bind fun t198 => (some t198))))) else (if a0 = 26 then (if (Int.tmod a2 4294967296) = 0 then (some 18446744073709551615) else ((citadelref01_W.f (IntKind.u64.wrap (Int.tdiv (Int.tmod a1 4294967296) (Int.tmod a2 4294967296)))).bind fun t199 => (some t199))) else (if a0 = 27 then ((citadelref01_W.f a1).bind fun t200 => ((citadelref01_W.f a2).bind fun t201 => ((citadelref01_rem.f t200 t201).bind fun t202 => ((citadelref01_W.f t202).bind fun t203 => (some t203))))) else (if a0 = 28 then (if (Int.tmod a2 4294967296) = 0 then ((citadelref01_W.f a1).bind fun t204 => (some t204)) else ((citadelref01_W.f (Int.tmod (Int.tmod a1 4294967296) (Int.tmod a2 4294967296))).bind fun t205 => (some t205))) else (some 0))))))))))))))))))))))))))))) = some r := h
  clear h
  by_cases c4 : a0 = 1
  · rw [if_pos c4] at H
    have c4b0 : (a0 == 1) = true := beq_iff_eq.mpr c4
    have c4b1 : (a0 != 1) = false := bne_eq_false_iff_eq.mpr c4
    clear c4
    obtain rfl := Option.some.inj H
    go_enter Try.func16, Try.ntmps16
    go_wp2
    go_ret
    exact ⟨by first | rfl | (simp; done) | (simp [*]; done), by repeat (first | exact Drawn0.refl _ | apply Drawn0.step)⟩
  · rw [if_neg c4] at H
    have c4b0 : (a0 == 1) = false := beq_eq_false_iff_ne.mpr c4
    have c4b1 : (a0 != 1) = true := bne_iff_ne.mpr c4
    by_cases c5 : a0 = 2
    · rw [if_pos c5] at H
      have c5b0 : (a0 == 2) = true := beq_iff_eq.mpr c5
      have c5b1 : (a0 != 2) = false := bne_eq_false_iff_eq.mpr c5
      clear c5
      obtain rfl := Option.some.inj H
      go_enter Try.func16, Try.ntmps16
      go_wp2
      go_ret
      exact ⟨by first | rfl | (simp; done) | (simp [*]; done), by repeat (first | exact Drawn0.refl _ | apply Drawn0.step)⟩
    · rw [if_neg c5] at H
      have c5b0 : (a0 == 2) = false := beq_eq_false_iff_ne.mpr c5
      have c5b1 : (a0 != 2) = true := bne_iff_ne.mpr c5
      by_cases c6 : a0 = 3
      · rw [if_pos c6] at H
        have c6b0 : (a0 == 3) = true := beq_iff_eq.mpr c6
        have c6b1 : (a0 != 3) = false := bne_eq_false_iff_eq.mpr c6
        clear c6
        obtain ⟨ji7, hji7⟩ : ∃ j_ : Int, (Int.tmod a2 64) = j_ := ⟨_, rfl⟩
        replace H : (if 0 ≤ (ji7) then (some (shl .u64 a1 (ji7))) else (none)) = some r := by first | (rw [hji7] at H; exact H) | (simp only [hji7] at H ⊢; exact H)
        by_cases c8 : 0 ≤ (ji7)
        · rw [if_pos c8] at H
          have c8b0 := eq_true c8
          have c8b1 : decide (0 ≤ (ji7)) = true := decide_eq_true c8
          clear c8
          obtain ⟨ji9, hji9⟩ : ∃ j_ : Int, (shl .u64 a1 (ji7)) = j_ := ⟨_, rfl⟩
          replace H : (some ji9) = some r := by first | (rw [hji9] at H; exact H) | (simp only [hji9] at H ⊢; exact H)
          have hji9_ : (IntKind.u64.wrap (a1 * 2 ^ min (ji7).toNat 64)) = ji9 := hji9
          have hji9z : (ji7) ≤ 64 → (IntKind.u64.wrap (a1 * 2 ^ (ji7).toNat)) = ji9 := shl_small hji9
          obtain rfl := Option.some.inj H
          go_enter Try.func16, Try.ntmps16
          go_wp2
          go_ret
          exact ⟨by first | rfl | (simp; done) | (simp only [← hji7, ← hji9] <;> (first | rfl | simp)) | (simp [*]; done), by repeat (first | exact Drawn0.refl _ | apply Drawn0.step)⟩
        · rw [if_neg c8] at H
          exact absurd H (by simp)
      · rw [if_neg c6] at H
        have c6b0 : (a0 == 3) = false := beq_eq_false_iff_ne.mpr c6
        have c6b1 : (a0 != 3) = true := bne_iff_ne.mpr c6
        by_cases c10 : a0 = 4
        · rw [if_pos c10] at H
          have c10b0 : (a0 == 4) = true := beq_iff_eq.mpr c10
          have c10b1 : (a0 != 4) = false := bne_eq_false_iff_eq.mpr c10
          clear c10
          replace H := Option.bind_eq_some_iff.mp H
          obtain ⟨t178, A110, H⟩ := H
          replace H : ((citadelref01_bit.f t178).bind fun t179 => (some t179)) = some r := H
          have A11 := Aside0.mk A110
          clear A110
          replace H := Option.bind_eq_some_iff.mp H
          obtain ⟨t179, A120, H⟩ := H
          replace H : (some t179) = some r := H
          have A12 := Aside0.mk A120
          clear A120
          obtain rfl := Option.some.inj H
          go_enter Try.func16, Try.ntmps16
          go_wp2_with (first | ((with_reducible refine gate_callee (f := 26) rfl ?_); refine goesL_ (some 39) rfl rfl Try.func26 (by kernel_rfl) rfl #[.int .u64 a1, .int .u64 a2] rfl (by (try simp only [List.map_toArray, List.map_cons, List.map_nil]); first | done | rfl | (simp only [List.length_drop, List.length_take]; rfl)) ?_; (with_reducible refine (citadelref01_less.calls a1 a2 t178 _ A11.out).mono ?_); rintro e w' ⟨rfl, ⟨nd, rfl⟩⟩; refine ⟨_, rfl, ?_⟩) | ((with_reducible refine gate_callee (f := 25) rfl ?_); refine goesL_ (some 40) rfl rfl Try.func25 (by kernel_rfl) rfl #[.bool t178] rfl (by (try simp only [List.map_toArray, List.map_cons, List.map_nil]); first | done | rfl | (simp only [List.length_drop, List.length_take]; rfl)) ?_; (with_reducible refine (citadelref01_bit.calls t178 t179 _ A12.out).mono ?_); rintro e w' ⟨rfl, ⟨nd, rfl⟩⟩; refine ⟨_, rfl, ?_⟩))
          go_ret
          exact ⟨by first | rfl | (simp; done) | (simp [*]; done), by repeat (first | exact Drawn0.refl _ | apply Drawn0.step)⟩
        · rw [if_neg c10] at H
          have c10b0 : (a0 == 4) = false := beq_eq_false_iff_ne.mpr c10
          have c10b1 : (a0 != 4) = true := bne_iff_ne.mpr c10
          by_cases c13 : a0 = 5
          · rw [if_pos c13] at H
            have c13b0 : (a0 == 5) = true := beq_iff_eq.mpr c13
            have c13b1 : (a0 != 5) = false := bne_eq_false_iff_eq.mpr c13
            clear c13
            replace H := Option.bind_eq_some_iff.mp H
            obtain ⟨t180, A140, H⟩ := H
            replace H : (some t180) = some r := H
            have A14 := Aside0.mk A140
            clear A140
            obtain rfl := Option.some.inj H
            go_enter Try.func16, Try.ntmps16
            go_wp2_with (first | ((with_reducible refine gate_callee (f := 25) rfl ?_); refine goesL_ (some 46) rfl rfl Try.func25 (by kernel_rfl) rfl #[.bool (decide (a1 < a2))] rfl (by (try simp only [List.map_toArray, List.map_cons, List.map_nil]); first | done | rfl | (simp only [List.length_drop, List.length_take]; rfl)) ?_; (with_reducible refine (citadelref01_bit.calls (decide (a1 < a2)) t180 _ A14.out).mono ?_); rintro e w' ⟨rfl, ⟨nd, rfl⟩⟩; refine ⟨_, rfl, ?_⟩))
            go_ret
            exact ⟨by first | rfl | (simp; done) | (simp [*]; done), by repeat (first | exact Drawn0.refl _ | apply Drawn0.step)⟩
          · rw [if_neg c13] at H
            have c13b0 : (a0 == 5) = false := beq_eq_false_iff_ne.mpr c13
            have c13b1 : (a0 != 5) = true := bne_iff_ne.mpr c13
            by_cases c15 : a0 = 6
            · rw [if_pos c15] at H
              have c15b0 : (a0 == 6) = true := beq_iff_eq.mpr c15
              have c15b1 : (a0 != 6) = false := bne_eq_false_iff_eq.mpr c15
              clear c15
              obtain rfl := Option.some.inj H
              go_enter Try.func16, Try.ntmps16
              go_wp2
              go_ret
              exact ⟨by first | rfl | (simp; done) | (simp [*]; done), by repeat (first | exact Drawn0.refl _ | apply Drawn0.step)⟩
            · rw [if_neg c15] at H
              have c15b0 : (a0 == 6) = false := beq_eq_false_iff_ne.mpr c15
              have c15b1 : (a0 != 6) = true := bne_iff_ne.mpr c15
              by_cases c16 : a0 = 7
              · rw [if_pos c16] at H
                have c16b0 : (a0 == 7) = true := beq_iff_eq.mpr c16
                have c16b1 : (a0 != 7) = false := bne_eq_false_iff_eq.mpr c16
                clear c16
                obtain ⟨ji17, hji17⟩ : ∃ j_ : Int, (Int.tmod a2 64) = j_ := ⟨_, rfl⟩
                replace H : (if 0 ≤ (ji17) then (some (shr .u64 a1 (ji17))) else (none)) = some r := by first | (rw [hji17] at H; exact H) | (simp only [hji17] at H ⊢; exact H)
                by_cases c18 : 0 ≤ (ji17)
                · rw [if_pos c18] at H
                  have c18b0 := eq_true c18
                  have c18b1 : decide (0 ≤ (ji17)) = true := decide_eq_true c18
                  clear c18
                  obtain ⟨ji19, hji19⟩ : ∃ j_ : Int, (shr .u64 a1 (ji17)) = j_ := ⟨_, rfl⟩
                  replace H : (some ji19) = some r := by first | (rw [hji19] at H; exact H) | (simp only [hji19] at H ⊢; exact H)
                  have hji19_ : (a1 / 2 ^ min (ji17).toNat 64) = ji19 := hji19
                  have hji19z : (ji17) ≤ 64 → (a1 / 2 ^ (ji17).toNat) = ji19 := shr_small hji19
                  obtain rfl := Option.some.inj H
                  go_enter Try.func16, Try.ntmps16
                  go_wp2
                  go_ret
                  exact ⟨by first | rfl | (simp; done) | (simp only [← hji17, ← hji19] <;> (first | rfl | simp)) | (simp [*]; done), by repeat (first | exact Drawn0.refl _ | apply Drawn0.step)⟩
                · rw [if_neg c18] at H
                  exact absurd H (by simp)
              · rw [if_neg c16] at H
                have c16b0 : (a0 == 7) = false := beq_eq_false_iff_ne.mpr c16
                have c16b1 : (a0 != 7) = true := bne_iff_ne.mpr c16
                by_cases c20 : a0 = 8
                · rw [if_pos c20] at H
                  have c20b0 : (a0 == 8) = true := beq_iff_eq.mpr c20
                  have c20b1 : (a0 != 8) = false := bne_eq_false_iff_eq.mpr c20
                  clear c20
                  replace H := Option.bind_eq_some_iff.mp H
                  obtain ⟨t181, A210, H⟩ := H
                  replace H : (some t181) = some r := H
                  have A21 := Aside0.mk A210
                  clear A210
                  obtain rfl := Option.some.inj H
                  go_enter Try.func16, Try.ntmps16
                  go_wp2_with (first | ((with_reducible refine gate_callee (f := 27) rfl ?_); refine goesL_ (some 61) rfl rfl Try.func27 (by kernel_rfl) rfl #[.int .u64 a1, .int .u64 (Int.tmod a2 64)] rfl (by (try simp only [List.map_toArray, List.map_cons, List.map_nil]); first | done | rfl | (simp only [List.length_drop, List.length_take]; rfl)) ?_; (with_reducible refine (citadelref01_sra.calls k a1 (Int.tmod a2 64) t181 _ A21.out).mono ?_); rintro e w' ⟨rfl, ⟨nd, rfl⟩⟩; refine ⟨_, rfl, ?_⟩))
                  go_ret
                  exact ⟨by first | rfl | (simp; done) | (simp [*]; done), by repeat (first | exact Drawn0.refl _ | apply Drawn0.step)⟩
                · rw [if_neg c20] at H
                  have c20b0 : (a0 == 8) = false := beq_eq_false_iff_ne.mpr c20
                  have c20b1 : (a0 != 8) = true := bne_iff_ne.mpr c20
                  by_cases c22 : a0 = 9
                  · rw [if_pos c22] at H
                    have c22b0 : (a0 == 9) = true := beq_iff_eq.mpr c22
                    have c22b1 : (a0 != 9) = false := bne_eq_false_iff_eq.mpr c22
                    clear c22
                    obtain rfl := Option.some.inj H
                    go_enter Try.func16, Try.ntmps16
                    go_wp2
                    go_ret
                    exact ⟨by first | rfl | (simp; done) | (simp [*]; done), by repeat (first | exact Drawn0.refl _ | apply Drawn0.step)⟩
                  · rw [if_neg c22] at H
                    have c22b0 : (a0 == 9) = false := beq_eq_false_iff_ne.mpr c22
                    have c22b1 : (a0 != 9) = true := bne_iff_ne.mpr c22
                    by_cases c23 : a0 = 10
                    · rw [if_pos c23] at H
                      have c23b0 : (a0 == 10) = true := beq_iff_eq.mpr c23
                      have c23b1 : (a0 != 10) = false := bne_eq_false_iff_eq.mpr c23
                      clear c23
                      obtain rfl := Option.some.inj H
                      go_enter Try.func16, Try.ntmps16
                      go_wp2
                      go_ret
                      exact ⟨by first | rfl | (simp; done) | (simp [*]; done), by repeat (first | exact Drawn0.refl _ | apply Drawn0.step)⟩
                    · rw [if_neg c23] at H
                      have c23b0 : (a0 == 10) = false := beq_eq_false_iff_ne.mpr c23
                      have c23b1 : (a0 != 10) = true := bne_iff_ne.mpr c23
                      by_cases c24 : a0 = 11
                      · rw [if_pos c24] at H
                        have c24b0 : (a0 == 11) = true := beq_iff_eq.mpr c24
                        have c24b1 : (a0 != 11) = false := bne_eq_false_iff_eq.mpr c24
                        clear c24
                        obtain rfl := Option.some.inj H
                        go_enter Try.func16, Try.ntmps16
                        go_wp2
                        go_ret
                        exact ⟨by first | rfl | (simp; done) | (simp [*]; done), by repeat (first | exact Drawn0.refl _ | apply Drawn0.step)⟩
                      · rw [if_neg c24] at H
                        have c24b0 : (a0 == 11) = false := beq_eq_false_iff_ne.mpr c24
                        have c24b1 : (a0 != 11) = true := bne_iff_ne.mpr c24
                        by_cases c25 : a0 = 12
                        · rw [if_pos c25] at H
                          have c25b0 : (a0 == 12) = true := beq_iff_eq.mpr c25
                          have c25b1 : (a0 != 12) = false := bne_eq_false_iff_eq.mpr c25
                          clear c25
                          replace H := Option.bind_eq_some_iff.mp H
                          obtain ⟨t182, A260, H⟩ := H
                          replace H : (some t182) = some r := H
                          have A26 := Aside0.mk A260
                          clear A260
                          obtain rfl := Option.some.inj H
                          go_enter Try.func16, Try.ntmps16
                          go_wp2_with (first | ((with_reducible refine gate_callee (f := 28) rfl ?_); refine goesL_ (some 81) rfl rfl Try.func28 (by kernel_rfl) rfl #[.int .u64 a1, .bool true, .int .u64 a2, .bool true] rfl (by (try simp only [List.map_toArray, List.map_cons, List.map_nil]); first | done | rfl | (simp only [List.length_drop, List.length_take]; rfl)) ?_; (with_reducible refine (citadelref01_highSigned.calls k a1 true a2 true t182 _ A26.out).mono ?_); rintro e w' ⟨rfl, ⟨nd, rfl⟩⟩; refine ⟨_, rfl, ?_⟩))
                          go_ret
                          exact ⟨by first | rfl | (simp; done) | (simp [*]; done), by repeat (first | exact Drawn0.refl _ | apply Drawn0.step)⟩
                        · rw [if_neg c25] at H
                          have c25b0 : (a0 == 12) = false := beq_eq_false_iff_ne.mpr c25
                          have c25b1 : (a0 != 12) = true := bne_iff_ne.mpr c25
                          by_cases c27 : a0 = 13
                          · rw [if_pos c27] at H
                            have c27b0 : (a0 == 13) = true := beq_iff_eq.mpr c27
                            have c27b1 : (a0 != 13) = false := bne_eq_false_iff_eq.mpr c27
                            clear c27
                            replace H := Option.bind_eq_some_iff.mp H
                            obtain ⟨t183, A280, H⟩ := H
                            replace H : (some t183) = some r := H
                            have A28 := Aside0.mk A280
                            clear A280
                            obtain rfl := Option.some.inj H
                            go_enter Try.func16, Try.ntmps16
                            go_wp2_with (first | ((with_reducible refine gate_callee (f := 28) rfl ?_); refine goesL_ (some 86) rfl rfl Try.func28 (by kernel_rfl) rfl #[.int .u64 a1, .bool true, .int .u64 a2, .bool false] rfl (by (try simp only [List.map_toArray, List.map_cons, List.map_nil]); first | done | rfl | (simp only [List.length_drop, List.length_take]; rfl)) ?_; (with_reducible refine (citadelref01_highSigned.calls k a1 true a2 false t183 _ A28.out).mono ?_); rintro e w' ⟨rfl, ⟨nd, rfl⟩⟩; refine ⟨_, rfl, ?_⟩))
                            go_ret
                            exact ⟨by first | rfl | (simp; done) | (simp [*]; done), by repeat (first | exact Drawn0.refl _ | apply Drawn0.step)⟩
                          · rw [if_neg c27] at H
                            have c27b0 : (a0 == 13) = false := beq_eq_false_iff_ne.mpr c27
                            have c27b1 : (a0 != 13) = true := bne_iff_ne.mpr c27
                            by_cases c29 : a0 = 14
                            · rw [if_pos c29] at H
                              have c29b0 : (a0 == 14) = true := beq_iff_eq.mpr c29
                              have c29b1 : (a0 != 14) = false := bne_eq_false_iff_eq.mpr c29
                              clear c29
                              replace H := Option.bind_eq_some_iff.mp H
                              obtain ⟨t184, A300, H⟩ := H
                              replace H : (some t184) = some r := H
                              have A30 := Aside0.mk A300
                              clear A300
                              obtain rfl := Option.some.inj H
                              go_enter Try.func16, Try.ntmps16
                              go_wp2_with (first | ((with_reducible refine gate_callee (f := 29) rfl ?_); refine goesL_ (some 91) rfl rfl Try.func29 (by kernel_rfl) rfl #[.int .u64 a1, .int .u64 a2] rfl (by (try simp only [List.map_toArray, List.map_cons, List.map_nil]); first | done | rfl | (simp only [List.length_drop, List.length_take]; rfl)) ?_; (with_reducible refine (citadelref01_High.calls a1 a2 t184 _ A30.out).mono ?_); rintro e w' ⟨rfl, ⟨nd, rfl⟩⟩; refine ⟨_, rfl, ?_⟩))
                              go_ret
                              exact ⟨by first | rfl | (simp; done) | (simp [*]; done), by repeat (first | exact Drawn0.refl _ | apply Drawn0.step)⟩
                            · rw [if_neg c29] at H
                              have c29b0 : (a0 == 14) = false := beq_eq_false_iff_ne.mpr c29
                              have c29b1 : (a0 != 14) = true := bne_iff_ne.mpr c29
                              by_cases c31 : a0 = 15
                              · rw [if_pos c31] at H
                                have c31b0 : (a0 == 15) = true := beq_iff_eq.mpr c31
                                have c31b1 : (a0 != 15) = false := bne_eq_false_iff_eq.mpr c31
                                clear c31
                                replace H := Option.bind_eq_some_iff.mp H
                                obtain ⟨t185, A320, H⟩ := H
                                replace H : (some t185) = some r := H
                                have A32 := Aside0.mk A320
                                clear A320
                                obtain rfl := Option.some.inj H
                                go_enter Try.func16, Try.ntmps16
                                go_wp2_with (first | ((with_reducible refine gate_callee (f := 30) rfl ?_); refine goesL_ (some 96) rfl rfl Try.func30 (by kernel_rfl) rfl #[.int .u64 a1, .int .u64 a2] rfl (by (try simp only [List.map_toArray, List.map_cons, List.map_nil]); first | done | rfl | (simp only [List.length_drop, List.length_take]; rfl)) ?_; (with_reducible refine (citadelref01_div.calls a1 a2 t185 _ A32.out).mono ?_); rintro e w' ⟨rfl, ⟨nd, rfl⟩⟩; refine ⟨_, rfl, ?_⟩))
                                go_ret
                                exact ⟨by first | rfl | (simp; done) | (simp [*]; done), by repeat (first | exact Drawn0.refl _ | apply Drawn0.step)⟩
                              · rw [if_neg c31] at H
                                have c31b0 : (a0 == 15) = false := beq_eq_false_iff_ne.mpr c31
                                have c31b1 : (a0 != 15) = true := bne_iff_ne.mpr c31
                                by_cases c33 : a0 = 16
                                · rw [if_pos c33] at H
                                  have c33b0 : (a0 == 16) = true := beq_iff_eq.mpr c33
                                  have c33b1 : (a0 != 16) = false := bne_eq_false_iff_eq.mpr c33
                                  clear c33
                                  by_cases c34 : a2 = 0
                                  · rw [if_pos c34] at H
                                    have c34b0 : (a2 == 0) = true := beq_iff_eq.mpr c34
                                    have c34b1 : (a2 != 0) = false := bne_eq_false_iff_eq.mpr c34
                                    clear c34
                                    obtain rfl := Option.some.inj H
                                    go_enter Try.func16, Try.ntmps16
                                    go_wp2
                                    go_ret
                                    exact ⟨by first | rfl | (simp; done) | (simp [*]; done), by repeat (first | exact Drawn0.refl _ | apply Drawn0.step)⟩
                                  · rw [if_neg c34] at H
                                    have c34b0 : (a2 == 0) = false := beq_eq_false_iff_ne.mpr c34
                                    have c34b1 : (a2 != 0) = true := bne_iff_ne.mpr c34
                                    obtain rfl := Option.some.inj H
                                    go_enter Try.func16, Try.ntmps16
                                    go_wp2
                                    go_ret
                                    exact ⟨by first | rfl | (simp; done) | (simp [*]; done), by repeat (first | exact Drawn0.refl _ | apply Drawn0.step)⟩
                                · rw [if_neg c33] at H
                                  have c33b0 : (a0 == 16) = false := beq_eq_false_iff_ne.mpr c33
                                  have c33b1 : (a0 != 16) = true := bne_iff_ne.mpr c33
                                  by_cases c35 : a0 = 17
                                  · rw [if_pos c35] at H
                                    have c35b0 : (a0 == 17) = true := beq_iff_eq.mpr c35
                                    have c35b1 : (a0 != 17) = false := bne_eq_false_iff_eq.mpr c35
                                    clear c35
                                    replace H := Option.bind_eq_some_iff.mp H
                                    obtain ⟨t186, A360, H⟩ := H
                                    replace H : (some t186) = some r := H
                                    have A36 := Aside0.mk A360
                                    clear A360
                                    obtain rfl := Option.some.inj H
                                    go_enter Try.func16, Try.ntmps16
                                    go_wp2_with (first | ((with_reducible refine gate_callee (f := 31) rfl ?_); refine goesL_ (some 108) rfl rfl Try.func31 (by kernel_rfl) rfl #[.int .u64 a1, .int .u64 a2] rfl (by (try simp only [List.map_toArray, List.map_cons, List.map_nil]); first | done | rfl | (simp only [List.length_drop, List.length_take]; rfl)) ?_; (with_reducible refine (citadelref01_rem.calls a1 a2 t186 _ A36.out).mono ?_); rintro e w' ⟨rfl, ⟨nd, rfl⟩⟩; refine ⟨_, rfl, ?_⟩))
                                    go_ret
                                    exact ⟨by first | rfl | (simp; done) | (simp [*]; done), by repeat (first | exact Drawn0.refl _ | apply Drawn0.step)⟩
                                  · rw [if_neg c35] at H
                                    have c35b0 : (a0 == 17) = false := beq_eq_false_iff_ne.mpr c35
                                    have c35b1 : (a0 != 17) = true := bne_iff_ne.mpr c35
                                    by_cases c37 : a0 = 18
                                    · rw [if_pos c37] at H
                                      have c37b0 : (a0 == 18) = true := beq_iff_eq.mpr c37
                                      have c37b1 : (a0 != 18) = false := bne_eq_false_iff_eq.mpr c37
                                      clear c37
                                      by_cases c38 : a2 = 0
                                      · rw [if_pos c38] at H
                                        have c38b0 : (a2 == 0) = true := beq_iff_eq.mpr c38
                                        have c38b1 : (a2 != 0) = false := bne_eq_false_iff_eq.mpr c38
                                        clear c38
                                        obtain rfl := Option.some.inj H
                                        go_enter Try.func16, Try.ntmps16
                                        go_wp2
                                        go_ret
                                        exact ⟨by first | rfl | (simp; done) | (simp [*]; done), by repeat (first | exact Drawn0.refl _ | apply Drawn0.step)⟩
                                      · rw [if_neg c38] at H
                                        have c38b0 : (a2 == 0) = false := beq_eq_false_iff_ne.mpr c38
                                        have c38b1 : (a2 != 0) = true := bne_iff_ne.mpr c38
                                        obtain rfl := Option.some.inj H
                                        go_enter Try.func16, Try.ntmps16
                                        go_wp2
                                        go_ret
                                        exact ⟨by first | rfl | (simp; done) | (simp [*]; done), by repeat (first | exact Drawn0.refl _ | apply Drawn0.step)⟩
                                    · rw [if_neg c37] at H
                                      have c37b0 : (a0 == 18) = false := beq_eq_false_iff_ne.mpr c37
                                      have c37b1 : (a0 != 18) = true := bne_iff_ne.mpr c37
                                      by_cases c39 : a0 = 19
                                      · rw [if_pos c39] at H
                                        have c39b0 : (a0 == 19) = true := beq_iff_eq.mpr c39
                                        have c39b1 : (a0 != 19) = false := bne_eq_false_iff_eq.mpr c39
                                        clear c39
                                        replace H := Option.bind_eq_some_iff.mp H
                                        obtain ⟨t187, A400, H⟩ := H
                                        replace H : (some t187) = some r := H
                                        have A40 := Aside0.mk A400
                                        clear A400
                                        obtain rfl := Option.some.inj H
                                        go_enter Try.func16, Try.ntmps16
                                        go_wp2_with (first | ((with_reducible refine gate_callee (f := 32) rfl ?_); refine goesL_ (some 122) rfl rfl Try.func32 (by kernel_rfl) rfl #[.int .u64 (IntKind.u64.wrap (a1 + a2))] rfl (by (try simp only [List.map_toArray, List.map_cons, List.map_nil]); first | done | rfl | (simp only [List.length_drop, List.length_take]; rfl)) ?_; (with_reducible refine (citadelref01_W.calls (IntKind.u64.wrap (a1 + a2)) t187 _ A40.out).mono ?_); rintro e w' ⟨rfl, ⟨nd, rfl⟩⟩; refine ⟨_, rfl, ?_⟩))
                                        go_ret
                                        exact ⟨by first | rfl | (simp; done) | (simp [*]; done), by repeat (first | exact Drawn0.refl _ | apply Drawn0.step)⟩
                                      · rw [if_neg c39] at H
                                        have c39b0 : (a0 == 19) = false := beq_eq_false_iff_ne.mpr c39
                                        have c39b1 : (a0 != 19) = true := bne_iff_ne.mpr c39
                                        by_cases c41 : a0 = 20
                                        · rw [if_pos c41] at H
                                          have c41b0 : (a0 == 20) = true := beq_iff_eq.mpr c41
                                          have c41b1 : (a0 != 20) = false := bne_eq_false_iff_eq.mpr c41
                                          clear c41
                                          replace H := Option.bind_eq_some_iff.mp H
                                          obtain ⟨t188, A420, H⟩ := H
                                          replace H : (some t188) = some r := H
                                          have A42 := Aside0.mk A420
                                          clear A420
                                          obtain rfl := Option.some.inj H
                                          go_enter Try.func16, Try.ntmps16
                                          go_wp2_with (first | ((with_reducible refine gate_callee (f := 32) rfl ?_); refine goesL_ (some 128) rfl rfl Try.func32 (by kernel_rfl) rfl #[.int .u64 (IntKind.u64.wrap (a1 - a2))] rfl (by (try simp only [List.map_toArray, List.map_cons, List.map_nil]); first | done | rfl | (simp only [List.length_drop, List.length_take]; rfl)) ?_; (with_reducible refine (citadelref01_W.calls (IntKind.u64.wrap (a1 - a2)) t188 _ A42.out).mono ?_); rintro e w' ⟨rfl, ⟨nd, rfl⟩⟩; refine ⟨_, rfl, ?_⟩))
                                          go_ret
                                          exact ⟨by first | rfl | (simp; done) | (simp [*]; done), by repeat (first | exact Drawn0.refl _ | apply Drawn0.step)⟩
                                        · rw [if_neg c41] at H
                                          have c41b0 : (a0 == 20) = false := beq_eq_false_iff_ne.mpr c41
                                          have c41b1 : (a0 != 20) = true := bne_iff_ne.mpr c41
                                          by_cases c43 : a0 = 21
                                          · rw [if_pos c43] at H
                                            have c43b0 : (a0 == 21) = true := beq_iff_eq.mpr c43
                                            have c43b1 : (a0 != 21) = false := bne_eq_false_iff_eq.mpr c43
                                            clear c43
                                            obtain ⟨ji44, hji44⟩ : ∃ j_ : Int, (Int.tmod a2 32) = j_ := ⟨_, rfl⟩
                                            replace H : (if 0 ≤ (ji44) then ((citadelref01_W.f (shl .u64 (Int.tmod a1 4294967296) (ji44))).bind fun t189 => (some t189)) else (none)) = some r := by first | (rw [hji44] at H; exact H) | (simp only [hji44] at H ⊢; exact H)
                                            by_cases c45 : 0 ≤ (ji44)
                                            · rw [if_pos c45] at H
                                              have c45b0 := eq_true c45
                                              have c45b1 : decide (0 ≤ (ji44)) = true := decide_eq_true c45
                                              clear c45
                                              obtain ⟨ji46, hji46⟩ : ∃ j_ : Int, (shl .u64 (Int.tmod a1 4294967296) (ji44)) = j_ := ⟨_, rfl⟩
                                              replace H : ((citadelref01_W.f (ji46)).bind fun t189 => (some t189)) = some r := by first | (rw [hji46] at H; exact H) | (simp only [hji46] at H ⊢; exact H)
                                              have hji46_ : (IntKind.u64.wrap ((Int.tmod a1 4294967296) * 2 ^ min (ji44).toNat 64)) = ji46 := hji46
                                              have hji46z : (ji44) ≤ 64 → (IntKind.u64.wrap ((Int.tmod a1 4294967296) * 2 ^ (ji44).toNat)) = ji46 := shl_small hji46
                                              replace H := Option.bind_eq_some_iff.mp H
                                              obtain ⟨t189, A470, H⟩ := H
                                              replace H : (some t189) = some r := H
                                              have A47 := Aside0.mk A470
                                              clear A470
                                              obtain rfl := Option.some.inj H
                                              go_enter Try.func16, Try.ntmps16
                                              go_wp2_with (first | ((with_reducible refine gate_callee (f := 32) rfl ?_); refine goesL_ (some 134) rfl rfl Try.func32 (by kernel_rfl) rfl #[.int .u64 ji46] rfl (by (try simp only [List.map_toArray, List.map_cons, List.map_nil]); first | done | (simp only [hji46]; rfl) | rfl | (simp only [List.length_drop, List.length_take]; rfl)) ?_; (with_reducible refine (citadelref01_W.calls ji46 t189 _ A47.out).mono ?_); rintro e w' ⟨rfl, ⟨nd, rfl⟩⟩; refine ⟨_, rfl, ?_⟩))
                                              go_ret
                                              exact ⟨by first | rfl | (simp; done) | (simp only [← hji44, ← hji46] <;> (first | rfl | simp)) | (simp [*]; done), by repeat (first | exact Drawn0.refl _ | apply Drawn0.step)⟩
                                            · rw [if_neg c45] at H
                                              exact absurd H (by simp)
                                          · rw [if_neg c43] at H
                                            have c43b0 : (a0 == 21) = false := beq_eq_false_iff_ne.mpr c43
                                            have c43b1 : (a0 != 21) = true := bne_iff_ne.mpr c43
                                            by_cases c48 : a0 = 22
                                            · rw [if_pos c48] at H
                                              have c48b0 : (a0 == 22) = true := beq_iff_eq.mpr c48
                                              have c48b1 : (a0 != 22) = false := bne_eq_false_iff_eq.mpr c48
                                              clear c48
                                              obtain ⟨ji49, hji49⟩ : ∃ j_ : Int, (Int.tmod a2 32) = j_ := ⟨_, rfl⟩
                                              replace H : (if 0 ≤ (ji49) then ((citadelref01_W.f (shr .u64 (Int.tmod a1 4294967296) (ji49))).bind fun t190 => (some t190)) else (none)) = some r := by first | (rw [hji49] at H; exact H) | (simp only [hji49] at H ⊢; exact H)
                                              by_cases c50 : 0 ≤ (ji49)
                                              · rw [if_pos c50] at H
                                                have c50b0 := eq_true c50
                                                have c50b1 : decide (0 ≤ (ji49)) = true := decide_eq_true c50
                                                clear c50
                                                obtain ⟨ji51, hji51⟩ : ∃ j_ : Int, (shr .u64 (Int.tmod a1 4294967296) (ji49)) = j_ := ⟨_, rfl⟩
                                                replace H : ((citadelref01_W.f (ji51)).bind fun t190 => (some t190)) = some r := by first | (rw [hji51] at H; exact H) | (simp only [hji51] at H ⊢; exact H)
                                                have hji51_ : ((Int.tmod a1 4294967296) / 2 ^ min (ji49).toNat 64) = ji51 := hji51
                                                have hji51z : (ji49) ≤ 64 → ((Int.tmod a1 4294967296) / 2 ^ (ji49).toNat) = ji51 := shr_small hji51
                                                replace H := Option.bind_eq_some_iff.mp H
                                                obtain ⟨t190, A520, H⟩ := H
                                                replace H : (some t190) = some r := H
                                                have A52 := Aside0.mk A520
                                                clear A520
                                                obtain rfl := Option.some.inj H
                                                go_enter Try.func16, Try.ntmps16
                                                go_wp2_with (first | ((with_reducible refine gate_callee (f := 32) rfl ?_); refine goesL_ (some 140) rfl rfl Try.func32 (by kernel_rfl) rfl #[.int .u64 ji51] rfl (by (try simp only [List.map_toArray, List.map_cons, List.map_nil]); first | done | (simp only [hji51]; rfl) | rfl | (simp only [List.length_drop, List.length_take]; rfl)) ?_; (with_reducible refine (citadelref01_W.calls ji51 t190 _ A52.out).mono ?_); rintro e w' ⟨rfl, ⟨nd, rfl⟩⟩; refine ⟨_, rfl, ?_⟩))
                                                go_ret
                                                exact ⟨by first | rfl | (simp; done) | (simp only [← hji49, ← hji51] <;> (first | rfl | simp)) | (simp [*]; done), by repeat (first | exact Drawn0.refl _ | apply Drawn0.step)⟩
                                              · rw [if_neg c50] at H
                                                exact absurd H (by simp)
                                            · rw [if_neg c48] at H
                                              have c48b0 : (a0 == 22) = false := beq_eq_false_iff_ne.mpr c48
                                              have c48b1 : (a0 != 22) = true := bne_iff_ne.mpr c48
                                              by_cases c53 : a0 = 23
                                              · rw [if_pos c53] at H
                                                have c53b0 : (a0 == 23) = true := beq_iff_eq.mpr c53
                                                have c53b1 : (a0 != 23) = false := bne_eq_false_iff_eq.mpr c53
                                                clear c53
                                                replace H := Option.bind_eq_some_iff.mp H
                                                obtain ⟨t191, A540, H⟩ := H
                                                replace H : ((citadelref01_sra.f k t191 (Int.tmod a2 32)).bind fun t192 => ((citadelref01_W.f t192).bind fun t193 => (some t193))) = some r := H
                                                have A54 := Aside0.mk A540
                                                clear A540
                                                replace H := Option.bind_eq_some_iff.mp H
                                                obtain ⟨t192, A550, H⟩ := H
                                                replace H : ((citadelref01_W.f t192).bind fun t193 => (some t193)) = some r := H
                                                have A55 := Aside0.mk A550
                                                clear A550
                                                replace H := Option.bind_eq_some_iff.mp H
                                                obtain ⟨t193, A560, H⟩ := H
                                                replace H : (some t193) = some r := H
                                                have A56 := Aside0.mk A560
                                                clear A560
                                                obtain rfl := Option.some.inj H
                                                go_enter Try.func16, Try.ntmps16
                                                go_wp2_with (first | ((with_reducible refine gate_callee (f := 32) rfl ?_); refine goesL_ (some 144) rfl rfl Try.func32 (by kernel_rfl) rfl #[.int .u64 a1] rfl (by (try simp only [List.map_toArray, List.map_cons, List.map_nil]); first | done | rfl | (simp only [List.length_drop, List.length_take]; rfl)) ?_; (with_reducible refine (citadelref01_W.calls a1 t191 _ A54.out).mono ?_); rintro e w' ⟨rfl, ⟨nd, rfl⟩⟩; refine ⟨_, rfl, ?_⟩) | ((with_reducible refine gate_callee (f := 27) rfl ?_); refine goesL_ (some 146) rfl rfl Try.func27 (by kernel_rfl) rfl #[.int .u64 t191, .int .u64 (Int.tmod a2 32)] rfl (by (try simp only [List.map_toArray, List.map_cons, List.map_nil]); first | done | rfl | (simp only [List.length_drop, List.length_take]; rfl)) ?_; (with_reducible refine (citadelref01_sra.calls k t191 (Int.tmod a2 32) t192 _ A55.out).mono ?_); rintro e w' ⟨rfl, ⟨nd, rfl⟩⟩; refine ⟨_, rfl, ?_⟩) | ((with_reducible refine gate_callee (f := 32) rfl ?_); refine goesL_ (some 147) rfl rfl Try.func32 (by kernel_rfl) rfl #[.int .u64 t192] rfl (by (try simp only [List.map_toArray, List.map_cons, List.map_nil]); first | done | rfl | (simp only [List.length_drop, List.length_take]; rfl)) ?_; (with_reducible refine (citadelref01_W.calls t192 t193 _ A56.out).mono ?_); rintro e w' ⟨rfl, ⟨nd, rfl⟩⟩; refine ⟨_, rfl, ?_⟩))
                                                go_ret
                                                exact ⟨by first | rfl | (simp; done) | (simp [*]; done), by repeat (first | exact Drawn0.refl _ | apply Drawn0.step)⟩
                                              · rw [if_neg c53] at H
                                                have c53b0 : (a0 == 23) = false := beq_eq_false_iff_ne.mpr c53
                                                have c53b1 : (a0 != 23) = true := bne_iff_ne.mpr c53
                                                by_cases c57 : a0 = 24
                                                · rw [if_pos c57] at H
                                                  have c57b0 : (a0 == 24) = true := beq_iff_eq.mpr c57
                                                  have c57b1 : (a0 != 24) = false := bne_eq_false_iff_eq.mpr c57
                                                  clear c57
                                                  replace H := Option.bind_eq_some_iff.mp H
                                                  obtain ⟨t194, A580, H⟩ := H
                                                  replace H : (some t194) = some r := H
                                                  have A58 := Aside0.mk A580
                                                  clear A580
                                                  obtain rfl := Option.some.inj H
                                                  go_enter Try.func16, Try.ntmps16
                                                  go_wp2_with (first | ((with_reducible refine gate_callee (f := 32) rfl ?_); refine goesL_ (some 153) rfl rfl Try.func32 (by kernel_rfl) rfl #[.int .u64 (IntKind.u64.wrap (a1 * a2))] rfl (by (try simp only [List.map_toArray, List.map_cons, List.map_nil]); first | done | rfl | (simp only [List.length_drop, List.length_take]; rfl)) ?_; (with_reducible refine (citadelref01_W.calls (IntKind.u64.wrap (a1 * a2)) t194 _ A58.out).mono ?_); rintro e w' ⟨rfl, ⟨nd, rfl⟩⟩; refine ⟨_, rfl, ?_⟩))
                                                  go_ret
                                                  exact ⟨by first | rfl | (simp; done) | (simp [*]; done), by repeat (first | exact Drawn0.refl _ | apply Drawn0.step)⟩
                                                · rw [if_neg c57] at H
                                                  have c57b0 : (a0 == 24) = false := beq_eq_false_iff_ne.mpr c57
                                                  have c57b1 : (a0 != 24) = true := bne_iff_ne.mpr c57
                                                  by_cases c59 : a0 = 25
                                                  · rw [if_pos c59] at H
                                                    have c59b0 : (a0 == 25) = true := beq_iff_eq.mpr c59
                                                    have c59b1 : (a0 != 25) = false := bne_eq_false_iff_eq.mpr c59
                                                    clear c59
                                                    replace H := Option.bind_eq_some_iff.mp H
                                                    obtain ⟨t195, A600, H⟩ := H
                                                    replace H : ((citadelref01_W.f a2).bind fun t196 => ((citadelref01_div.f t195 t196).bind fun t197 => ((citadelref01_W.f t197).bind fun t198 => (some t198)))) = some r := H
                                                    have A60 := Aside0.mk A600
                                                    clear A600
                                                    replace H := Option.bind_eq_some_iff.mp H
                                                    obtain ⟨t196, A610, H⟩ := H
                                                    replace H : ((citadelref01_div.f t195 t196).bind fun t197 => ((citadelref01_W.f t197).bind fun t198 => (some t198))) = some r := H
                                                    have A61 := Aside0.mk A610
                                                    clear A610
                                                    replace H := Option.bind_eq_some_iff.mp H
                                                    obtain ⟨t197, A620, H⟩ := H
                                                    replace H : ((citadelref01_W.f t197).bind fun t198 => (some t198)) = some r := H
                                                    have A62 := Aside0.mk A620
                                                    clear A620
                                                    replace H := Option.bind_eq_some_iff.mp H
                                                    obtain ⟨t198, A630, H⟩ := H
                                                    replace H : (some t198) = some r := H
                                                    have A63 := Aside0.mk A630
                                                    clear A630
                                                    obtain rfl := Option.some.inj H
                                                    go_enter Try.func16, Try.ntmps16
                                                    go_wp2_with (first | ((with_reducible refine gate_callee (f := 32) rfl ?_); refine goesL_ (some 157) rfl rfl Try.func32 (by kernel_rfl) rfl #[.int .u64 a1] rfl (by (try simp only [List.map_toArray, List.map_cons, List.map_nil]); first | done | rfl | (simp only [List.length_drop, List.length_take]; rfl)) ?_; (with_reducible refine (citadelref01_W.calls a1 t195 _ A60.out).mono ?_); rintro e w' ⟨rfl, ⟨nd, rfl⟩⟩; refine ⟨_, rfl, ?_⟩) | ((with_reducible refine gate_callee (f := 32) rfl ?_); refine goesL_ (some 159) rfl rfl Try.func32 (by kernel_rfl) rfl #[.int .u64 a2] rfl (by (try simp only [List.map_toArray, List.map_cons, List.map_nil]); first | done | rfl | (simp only [List.length_drop, List.length_take]; rfl)) ?_; (with_reducible refine (citadelref01_W.calls a2 t196 _ A61.out).mono ?_); rintro e w' ⟨rfl, ⟨nd, rfl⟩⟩; refine ⟨_, rfl, ?_⟩) | ((with_reducible refine gate_callee (f := 30) rfl ?_); refine goesL_ (some 160) rfl rfl Try.func30 (by kernel_rfl) rfl #[.int .u64 t195, .int .u64 t196] rfl (by (try simp only [List.map_toArray, List.map_cons, List.map_nil]); first | done | rfl | (simp only [List.length_drop, List.length_take]; rfl)) ?_; (with_reducible refine (citadelref01_div.calls t195 t196 t197 _ A62.out).mono ?_); rintro e w' ⟨rfl, ⟨nd, rfl⟩⟩; refine ⟨_, rfl, ?_⟩) | ((with_reducible refine gate_callee (f := 32) rfl ?_); refine goesL_ (some 161) rfl rfl Try.func32 (by kernel_rfl) rfl #[.int .u64 t197] rfl (by (try simp only [List.map_toArray, List.map_cons, List.map_nil]); first | done | rfl | (simp only [List.length_drop, List.length_take]; rfl)) ?_; (with_reducible refine (citadelref01_W.calls t197 t198 _ A63.out).mono ?_); rintro e w' ⟨rfl, ⟨nd, rfl⟩⟩; refine ⟨_, rfl, ?_⟩))
                                                    go_ret
                                                    exact ⟨by first | rfl | (simp; done) | (simp [*]; done), by repeat (first | exact Drawn0.refl _ | apply Drawn0.step)⟩
                                                  · rw [if_neg c59] at H
                                                    have c59b0 : (a0 == 25) = false := beq_eq_false_iff_ne.mpr c59
                                                    have c59b1 : (a0 != 25) = true := bne_iff_ne.mpr c59
                                                    by_cases c64 : a0 = 26
                                                    · rw [if_pos c64] at H
                                                      have c64b0 : (a0 == 26) = true := beq_iff_eq.mpr c64
                                                      have c64b1 : (a0 != 26) = false := bne_eq_false_iff_eq.mpr c64
                                                      clear c64
                                                      by_cases c65 : (Int.tmod a2 4294967296) = 0
                                                      · rw [if_pos c65] at H
                                                        have c65b0 : ((Int.tmod a2 4294967296) == 0) = true := beq_iff_eq.mpr c65
                                                        have c65b1 : ((Int.tmod a2 4294967296) != 0) = false := bne_eq_false_iff_eq.mpr c65
                                                        clear c65
                                                        obtain rfl := Option.some.inj H
                                                        go_enter Try.func16, Try.ntmps16
                                                        go_wp2
                                                        go_ret
                                                        exact ⟨by first | rfl | (simp; done) | (simp [*]; done), by repeat (first | exact Drawn0.refl _ | apply Drawn0.step)⟩
                                                      · rw [if_neg c65] at H
                                                        have c65b0 : ((Int.tmod a2 4294967296) == 0) = false := beq_eq_false_iff_ne.mpr c65
                                                        have c65b1 : ((Int.tmod a2 4294967296) != 0) = true := bne_iff_ne.mpr c65
                                                        replace H := Option.bind_eq_some_iff.mp H
                                                        obtain ⟨t199, A660, H⟩ := H
                                                        replace H : (some t199) = some r := H
                                                        have A66 := Aside0.mk A660
                                                        clear A660
                                                        obtain rfl := Option.some.inj H
                                                        go_enter Try.func16, Try.ntmps16
                                                        go_wp2_with (first | ((with_reducible refine gate_callee (f := 32) rfl ?_); refine goesL_ (some 169) rfl rfl Try.func32 (by kernel_rfl) rfl #[.int .u64 (IntKind.u64.wrap (Int.tdiv (Int.tmod a1 4294967296) (Int.tmod a2 4294967296)))] rfl (by (try simp only [List.map_toArray, List.map_cons, List.map_nil]); first | done | rfl | (simp only [List.length_drop, List.length_take]; rfl)) ?_; (with_reducible refine (citadelref01_W.calls (IntKind.u64.wrap (Int.tdiv (Int.tmod a1 4294967296) (Int.tmod a2 4294967296))) t199 _ A66.out).mono ?_); rintro e w' ⟨rfl, ⟨nd, rfl⟩⟩; refine ⟨_, rfl, ?_⟩))
                                                        go_ret
                                                        exact ⟨by first | rfl | (simp; done) | (simp [*]; done), by repeat (first | exact Drawn0.refl _ | apply Drawn0.step)⟩
                                                    · rw [if_neg c64] at H
                                                      have c64b0 : (a0 == 26) = false := beq_eq_false_iff_ne.mpr c64
                                                      have c64b1 : (a0 != 26) = true := bne_iff_ne.mpr c64
                                                      by_cases c67 : a0 = 27
                                                      · rw [if_pos c67] at H
                                                        have c67b0 : (a0 == 27) = true := beq_iff_eq.mpr c67
                                                        have c67b1 : (a0 != 27) = false := bne_eq_false_iff_eq.mpr c67
                                                        clear c67
                                                        replace H := Option.bind_eq_some_iff.mp H
                                                        obtain ⟨t200, A680, H⟩ := H
                                                        replace H : ((citadelref01_W.f a2).bind fun t201 => ((citadelref01_rem.f t200 t201).bind fun t202 => ((citadelref01_W.f t202).bind fun t203 => (some t203)))) = some r := H
                                                        have A68 := Aside0.mk A680
                                                        clear A680
                                                        replace H := Option.bind_eq_some_iff.mp H
                                                        obtain ⟨t201, A690, H⟩ := H
                                                        replace H : ((citadelref01_rem.f t200 t201).bind fun t202 => ((citadelref01_W.f t202).bind fun t203 => (some t203))) = some r := H
                                                        have A69 := Aside0.mk A690
                                                        clear A690
                                                        replace H := Option.bind_eq_some_iff.mp H
                                                        obtain ⟨t202, A700, H⟩ := H
                                                        replace H : ((citadelref01_W.f t202).bind fun t203 => (some t203)) = some r := H
                                                        have A70 := Aside0.mk A700
                                                        clear A700
                                                        replace H := Option.bind_eq_some_iff.mp H
                                                        obtain ⟨t203, A710, H⟩ := H
                                                        replace H : (some t203) = some r := H
                                                        have A71 := Aside0.mk A710
                                                        clear A710
                                                        obtain rfl := Option.some.inj H
                                                        go_enter Try.func16, Try.ntmps16
                                                        go_wp2_with (first | ((with_reducible refine gate_callee (f := 32) rfl ?_); refine goesL_ (some 173) rfl rfl Try.func32 (by kernel_rfl) rfl #[.int .u64 a1] rfl (by (try simp only [List.map_toArray, List.map_cons, List.map_nil]); first | done | rfl | (simp only [List.length_drop, List.length_take]; rfl)) ?_; (with_reducible refine (citadelref01_W.calls a1 t200 _ A68.out).mono ?_); rintro e w' ⟨rfl, ⟨nd, rfl⟩⟩; refine ⟨_, rfl, ?_⟩) | ((with_reducible refine gate_callee (f := 32) rfl ?_); refine goesL_ (some 175) rfl rfl Try.func32 (by kernel_rfl) rfl #[.int .u64 a2] rfl (by (try simp only [List.map_toArray, List.map_cons, List.map_nil]); first | done | rfl | (simp only [List.length_drop, List.length_take]; rfl)) ?_; (with_reducible refine (citadelref01_W.calls a2 t201 _ A69.out).mono ?_); rintro e w' ⟨rfl, ⟨nd, rfl⟩⟩; refine ⟨_, rfl, ?_⟩) | ((with_reducible refine gate_callee (f := 31) rfl ?_); refine goesL_ (some 176) rfl rfl Try.func31 (by kernel_rfl) rfl #[.int .u64 t200, .int .u64 t201] rfl (by (try simp only [List.map_toArray, List.map_cons, List.map_nil]); first | done | rfl | (simp only [List.length_drop, List.length_take]; rfl)) ?_; (with_reducible refine (citadelref01_rem.calls t200 t201 t202 _ A70.out).mono ?_); rintro e w' ⟨rfl, ⟨nd, rfl⟩⟩; refine ⟨_, rfl, ?_⟩) | ((with_reducible refine gate_callee (f := 32) rfl ?_); refine goesL_ (some 177) rfl rfl Try.func32 (by kernel_rfl) rfl #[.int .u64 t202] rfl (by (try simp only [List.map_toArray, List.map_cons, List.map_nil]); first | done | rfl | (simp only [List.length_drop, List.length_take]; rfl)) ?_; (with_reducible refine (citadelref01_W.calls t202 t203 _ A71.out).mono ?_); rintro e w' ⟨rfl, ⟨nd, rfl⟩⟩; refine ⟨_, rfl, ?_⟩))
                                                        go_ret
                                                        exact ⟨by first | rfl | (simp; done) | (simp [*]; done), by repeat (first | exact Drawn0.refl _ | apply Drawn0.step)⟩
                                                      · rw [if_neg c67] at H
                                                        have c67b0 : (a0 == 27) = false := beq_eq_false_iff_ne.mpr c67
                                                        have c67b1 : (a0 != 27) = true := bne_iff_ne.mpr c67
                                                        by_cases c72 : a0 = 28
                                                        · rw [if_pos c72] at H
                                                          have c72b0 : (a0 == 28) = true := beq_iff_eq.mpr c72
                                                          have c72b1 : (a0 != 28) = false := bne_eq_false_iff_eq.mpr c72
                                                          clear c72
                                                          by_cases c73 : (Int.tmod a2 4294967296) = 0
                                                          · rw [if_pos c73] at H
                                                            have c73b0 : ((Int.tmod a2 4294967296) == 0) = true := beq_iff_eq.mpr c73
                                                            have c73b1 : ((Int.tmod a2 4294967296) != 0) = false := bne_eq_false_iff_eq.mpr c73
                                                            clear c73
                                                            replace H := Option.bind_eq_some_iff.mp H
                                                            obtain ⟨t204, A740, H⟩ := H
                                                            replace H : (some t204) = some r := H
                                                            have A74 := Aside0.mk A740
                                                            clear A740
                                                            obtain rfl := Option.some.inj H
                                                            go_enter Try.func16, Try.ntmps16
                                                            go_wp2_with (first | ((with_reducible refine gate_callee (f := 32) rfl ?_); refine goesL_ (some 183) rfl rfl Try.func32 (by kernel_rfl) rfl #[.int .u64 a1] rfl (by (try simp only [List.map_toArray, List.map_cons, List.map_nil]); first | done | rfl | (simp only [List.length_drop, List.length_take]; rfl)) ?_; (with_reducible refine (citadelref01_W.calls a1 t204 _ A74.out).mono ?_); rintro e w' ⟨rfl, ⟨nd, rfl⟩⟩; refine ⟨_, rfl, ?_⟩))
                                                            go_ret
                                                            exact ⟨by first | rfl | (simp; done) | (simp [*]; done), by repeat (first | exact Drawn0.refl _ | apply Drawn0.step)⟩
                                                          · rw [if_neg c73] at H
                                                            have c73b0 : ((Int.tmod a2 4294967296) == 0) = false := beq_eq_false_iff_ne.mpr c73
                                                            have c73b1 : ((Int.tmod a2 4294967296) != 0) = true := bne_iff_ne.mpr c73
                                                            replace H := Option.bind_eq_some_iff.mp H
                                                            obtain ⟨t205, A750, H⟩ := H
                                                            replace H : (some t205) = some r := H
                                                            have A75 := Aside0.mk A750
                                                            clear A750
                                                            obtain rfl := Option.some.inj H
                                                            go_enter Try.func16, Try.ntmps16
                                                            go_wp2_with (first | ((with_reducible refine gate_callee (f := 32) rfl ?_); refine goesL_ (some 187) rfl rfl Try.func32 (by kernel_rfl) rfl #[.int .u64 (Int.tmod (Int.tmod a1 4294967296) (Int.tmod a2 4294967296))] rfl (by (try simp only [List.map_toArray, List.map_cons, List.map_nil]); first | done | rfl | (simp only [List.length_drop, List.length_take]; rfl)) ?_; (with_reducible refine (citadelref01_W.calls (Int.tmod (Int.tmod a1 4294967296) (Int.tmod a2 4294967296)) t205 _ A75.out).mono ?_); rintro e w' ⟨rfl, ⟨nd, rfl⟩⟩; refine ⟨_, rfl, ?_⟩))
                                                            go_ret
                                                            exact ⟨by first | rfl | (simp; done) | (simp [*]; done), by repeat (first | exact Drawn0.refl _ | apply Drawn0.step)⟩
                                                        · rw [if_neg c72] at H
                                                          have c72b0 : (a0 == 28) = false := beq_eq_false_iff_ne.mpr c72
                                                          have c72b1 : (a0 != 28) = true := bne_iff_ne.mpr c72
                                                          obtain rfl := Option.some.inj H
                                                          go_enter Try.func16, Try.ntmps16
                                                          go_wp2
                                                          go_ret
                                                          exact ⟨by first | rfl | (simp; done) | (simp [*]; done), by repeat (first | exact Drawn0.refl _ | apply Drawn0.step)⟩

/-! ### word_amo: function 33 -/
def word_amo.f (a0 : Int) (a1 : Int) (a2 : Int) (a3 : Int) (a4 : Int) : Option (Int) := if a0 = 1 then (some a2) else (if a0 = 2 then (some (IntKind.u64.wrap (a1 + a2))) else (if a0 = 3 then (some (Go.bits .xor .u64 a1 a2)) else (if a0 = 4 then (some (Go.bits .and .u64 a1 a2)) else (if a0 = 5 then (some (Go.bits .or .u64 a1 a2)) else (if a0 = 6 then (some (IntKind.u64.wrap (mn (wrap64 (a1)) (wrap64 (a2))))) else (if a0 = 7 then (some (IntKind.u64.wrap (mx (wrap64 (a1)) (wrap64 (a2))))) else (if a0 = 8 then (some (mn a3 a4)) else (if a0 = 9 then (some (mx a3 a4)) else (some a1)))))))))
set_option maxHeartbeats 8000000 in
set_option maxRecDepth 100000 in
theorem word_amo.calls (a0 : Int) (a1 : Int) (a2 : Int) (a3 : Int) (a4 : Int) (r : Int) (w : World) (h : word_amo.f a0 a1 a2 a3 a4 = some r) :
    Calls Try.prog 33 #[.int .i64 a0, .int .u64 a1, .int .u64 a2, .int .u64 a3, .int .u64 a4] w fun e w' => e = .returned (.int .u64 r) ∧ Below w.heap.size w w' := by
  have HB := Aside0.mk (Below.refl w.heap.size w)
  have H : (if a0 = 1 then (some a2) else (if a0 = 2 then (some (IntKind.u64.wrap (a1 + a2))) else (if a0 = 3 then (some (Go.bits .xor .u64 a1 a2)) else (if a0 = 4 then (some (Go.bits .and .u64 a1 a2)) else (if a0 = 5 then (some (Go.bits .or .u64 a1 a2)) else (if a0 = 6 then (some (IntKind.u64.wrap (mn (wrap64 (a1)) (wrap64 (a2))))) else (if a0 = 7 then (some (IntKind.u64.wrap (mx (wrap64 (a1)) (wrap64 (a2))))) else (if a0 = 8 then (some (mn a3 a4)) else (if a0 = 9 then (some (mx a3 a4)) else (some a1)))))))))) = some r := h
  clear h
  by_cases c6 : a0 = 1
  · rw [if_pos c6] at H
    have c6b0 : (a0 == 1) = true := beq_iff_eq.mpr c6
    have c6b1 : (a0 != 1) = false := bne_eq_false_iff_eq.mpr c6
    clear c6
    obtain rfl := Option.some.inj H
    go_enter Try.func33, Try.ntmps33
    go_wp2
    go_ret
    exact ⟨by first | rfl | (simp [errW_none, errW_some] <;> rfl) | (simp [*, errW_none, errW_some] <;> rfl), by repeat (first | (with_reducible first | exact HB.out | apply below_alloc | apply pw_below_drewN | apply below_drew1) | exact HB.out)⟩
  · rw [if_neg c6] at H
    have c6b0 : (a0 == 1) = false := beq_eq_false_iff_ne.mpr c6
    have c6b1 : (a0 != 1) = true := bne_iff_ne.mpr c6
    by_cases c7 : a0 = 2
    · rw [if_pos c7] at H
      have c7b0 : (a0 == 2) = true := beq_iff_eq.mpr c7
      have c7b1 : (a0 != 2) = false := bne_eq_false_iff_eq.mpr c7
      clear c7
      obtain rfl := Option.some.inj H
      go_enter Try.func33, Try.ntmps33
      go_wp2
      go_ret
      exact ⟨by first | rfl | (simp [errW_none, errW_some] <;> rfl) | (simp [*, errW_none, errW_some] <;> rfl), by repeat (first | (with_reducible first | exact HB.out | apply below_alloc | apply pw_below_drewN | apply below_drew1) | exact HB.out)⟩
    · rw [if_neg c7] at H
      have c7b0 : (a0 == 2) = false := beq_eq_false_iff_ne.mpr c7
      have c7b1 : (a0 != 2) = true := bne_iff_ne.mpr c7
      by_cases c8 : a0 = 3
      · rw [if_pos c8] at H
        have c8b0 : (a0 == 3) = true := beq_iff_eq.mpr c8
        have c8b1 : (a0 != 3) = false := bne_eq_false_iff_eq.mpr c8
        clear c8
        obtain rfl := Option.some.inj H
        go_enter Try.func33, Try.ntmps33
        go_wp2
        go_ret
        exact ⟨by first | rfl | (simp [errW_none, errW_some] <;> rfl) | (simp [*, errW_none, errW_some] <;> rfl), by repeat (first | (with_reducible first | exact HB.out | apply below_alloc | apply pw_below_drewN | apply below_drew1) | exact HB.out)⟩
      · rw [if_neg c8] at H
        have c8b0 : (a0 == 3) = false := beq_eq_false_iff_ne.mpr c8
        have c8b1 : (a0 != 3) = true := bne_iff_ne.mpr c8
        by_cases c9 : a0 = 4
        · rw [if_pos c9] at H
          have c9b0 : (a0 == 4) = true := beq_iff_eq.mpr c9
          have c9b1 : (a0 != 4) = false := bne_eq_false_iff_eq.mpr c9
          clear c9
          obtain rfl := Option.some.inj H
          go_enter Try.func33, Try.ntmps33
          go_wp2
          go_ret
          exact ⟨by first | rfl | (simp [errW_none, errW_some] <;> rfl) | (simp [*, errW_none, errW_some] <;> rfl), by repeat (first | (with_reducible first | exact HB.out | apply below_alloc | apply pw_below_drewN | apply below_drew1) | exact HB.out)⟩
        · rw [if_neg c9] at H
          have c9b0 : (a0 == 4) = false := beq_eq_false_iff_ne.mpr c9
          have c9b1 : (a0 != 4) = true := bne_iff_ne.mpr c9
          by_cases c10 : a0 = 5
          · rw [if_pos c10] at H
            have c10b0 : (a0 == 5) = true := beq_iff_eq.mpr c10
            have c10b1 : (a0 != 5) = false := bne_eq_false_iff_eq.mpr c10
            clear c10
            obtain rfl := Option.some.inj H
            go_enter Try.func33, Try.ntmps33
            go_wp2
            go_ret
            exact ⟨by first | rfl | (simp [errW_none, errW_some] <;> rfl) | (simp [*, errW_none, errW_some] <;> rfl), by repeat (first | (with_reducible first | exact HB.out | apply below_alloc | apply pw_below_drewN | apply below_drew1) | exact HB.out)⟩
          · rw [if_neg c10] at H
            have c10b0 : (a0 == 5) = false := beq_eq_false_iff_ne.mpr c10
            have c10b1 : (a0 != 5) = true := bne_iff_ne.mpr c10
            by_cases c11 : a0 = 6
            · rw [if_pos c11] at H
              have c11b0 : (a0 == 6) = true := beq_iff_eq.mpr c11
              have c11b1 : (a0 != 6) = false := bne_eq_false_iff_eq.mpr c11
              clear c11
              obtain ⟨ji12, hji12⟩ : ∃ j_ : Int, (mn (wrap64 (a1)) (wrap64 (a2))) = j_ := ⟨_, rfl⟩
              replace H : (some (IntKind.u64.wrap (ji12))) = some r := by first | (rw [hji12] at H; exact H) | (simp only [hji12] at H ⊢; exact H)
              have hji12_ : (if (wrap64 (a2)) < (wrap64 (a1)) then (wrap64 (a2)) else (wrap64 (a1))) = ji12 := hji12
              obtain rfl := Option.some.inj H
              go_enter Try.func33, Try.ntmps33
              go_wp2
              go_ret
              exact ⟨by first | rfl | (simp [errW_none, errW_some] <;> rfl) | (simp only [← hji12]; first | rfl | (simp [errW_none, errW_some] <;> rfl)) | (simp [*, errW_none, errW_some] <;> rfl), by repeat (first | (with_reducible first | exact HB.out | apply below_alloc | apply pw_below_drewN | apply below_drew1) | exact HB.out)⟩
            · rw [if_neg c11] at H
              have c11b0 : (a0 == 6) = false := beq_eq_false_iff_ne.mpr c11
              have c11b1 : (a0 != 6) = true := bne_iff_ne.mpr c11
              by_cases c13 : a0 = 7
              · rw [if_pos c13] at H
                have c13b0 : (a0 == 7) = true := beq_iff_eq.mpr c13
                have c13b1 : (a0 != 7) = false := bne_eq_false_iff_eq.mpr c13
                clear c13
                obtain ⟨ji14, hji14⟩ : ∃ j_ : Int, (mx (wrap64 (a1)) (wrap64 (a2))) = j_ := ⟨_, rfl⟩
                replace H : (some (IntKind.u64.wrap (ji14))) = some r := by first | (rw [hji14] at H; exact H) | (simp only [hji14] at H ⊢; exact H)
                have hji14_ : (if (wrap64 (a1)) < (wrap64 (a2)) then (wrap64 (a2)) else (wrap64 (a1))) = ji14 := hji14
                obtain rfl := Option.some.inj H
                go_enter Try.func33, Try.ntmps33
                go_wp2
                go_ret
                exact ⟨by first | rfl | (simp [errW_none, errW_some] <;> rfl) | (simp only [← hji14]; first | rfl | (simp [errW_none, errW_some] <;> rfl)) | (simp [*, errW_none, errW_some] <;> rfl), by repeat (first | (with_reducible first | exact HB.out | apply below_alloc | apply pw_below_drewN | apply below_drew1) | exact HB.out)⟩
              · rw [if_neg c13] at H
                have c13b0 : (a0 == 7) = false := beq_eq_false_iff_ne.mpr c13
                have c13b1 : (a0 != 7) = true := bne_iff_ne.mpr c13
                by_cases c15 : a0 = 8
                · rw [if_pos c15] at H
                  have c15b0 : (a0 == 8) = true := beq_iff_eq.mpr c15
                  have c15b1 : (a0 != 8) = false := bne_eq_false_iff_eq.mpr c15
                  clear c15
                  obtain ⟨ji16, hji16⟩ : ∃ j_ : Int, (mn a3 a4) = j_ := ⟨_, rfl⟩
                  replace H : (some ji16) = some r := by first | (rw [hji16] at H; exact H) | (simp only [hji16] at H ⊢; exact H)
                  have hji16_ : (if a4 < a3 then a4 else a3) = ji16 := hji16
                  obtain rfl := Option.some.inj H
                  go_enter Try.func33, Try.ntmps33
                  go_wp2
                  go_ret
                  exact ⟨by first | rfl | (simp [errW_none, errW_some] <;> rfl) | (simp only [← hji16]; first | rfl | (simp [errW_none, errW_some] <;> rfl)) | (simp [*, errW_none, errW_some] <;> rfl), by repeat (first | (with_reducible first | exact HB.out | apply below_alloc | apply pw_below_drewN | apply below_drew1) | exact HB.out)⟩
                · rw [if_neg c15] at H
                  have c15b0 : (a0 == 8) = false := beq_eq_false_iff_ne.mpr c15
                  have c15b1 : (a0 != 8) = true := bne_iff_ne.mpr c15
                  by_cases c17 : a0 = 9
                  · rw [if_pos c17] at H
                    have c17b0 : (a0 == 9) = true := beq_iff_eq.mpr c17
                    have c17b1 : (a0 != 9) = false := bne_eq_false_iff_eq.mpr c17
                    clear c17
                    obtain ⟨ji18, hji18⟩ : ∃ j_ : Int, (mx a3 a4) = j_ := ⟨_, rfl⟩
                    replace H : (some ji18) = some r := by first | (rw [hji18] at H; exact H) | (simp only [hji18] at H ⊢; exact H)
                    have hji18_ : (if a3 < a4 then a4 else a3) = ji18 := hji18
                    obtain rfl := Option.some.inj H
                    go_enter Try.func33, Try.ntmps33
                    go_wp2
                    go_ret
                    exact ⟨by first | rfl | (simp [errW_none, errW_some] <;> rfl) | (simp only [← hji18]; first | rfl | (simp [errW_none, errW_some] <;> rfl)) | (simp [*, errW_none, errW_some] <;> rfl), by repeat (first | (with_reducible first | exact HB.out | apply below_alloc | apply pw_below_drewN | apply below_drew1) | exact HB.out)⟩
                  · rw [if_neg c17] at H
                    have c17b0 : (a0 == 9) = false := beq_eq_false_iff_ne.mpr c17
                    have c17b1 : (a0 != 9) = true := bne_iff_ne.mpr c17
                    obtain rfl := Option.some.inj H
                    go_enter Try.func33, Try.ntmps33
                    go_wp2
                    go_ret
                    exact ⟨by first | rfl | (simp [errW_none, errW_some] <;> rfl) | (simp [*, errW_none, errW_some] <;> rfl), by repeat (first | (with_reducible first | exact HB.out | apply below_alloc | apply pw_below_drewN | apply below_drew1) | exact HB.out)⟩

/-! ### word_Amo: function 18 -/
def word_Amo.f (a0 : Int) (a1 : Int) (a2 : Int) (a3 : Int) : Option (Int) := if a1 = 4 then ((word_extended.f ((a2) % 4294967296)).bind fun t206 => ((word_extended.f ((a3) % 4294967296)).bind fun t207 => ((word_amo.f a0 t206 t207 ((a2) % 4294967296) ((a3) % 4294967296)).bind fun t208 => (some ((t208) % 4294967296))))) else ((word_amo.f a0 a2 a3 a2 a3).bind fun t209 => (some t209))
set_option maxHeartbeats 8000000 in
set_option maxRecDepth 100000 in
theorem word_Amo.calls (a0 : Int) (a1 : Int) (a2 : Int) (a3 : Int) (r : Int) (w : World) (h : word_Amo.f a0 a1 a2 a3 = some r) :
    Calls Try.prog 18 #[.int .i64 a0, .int .i64 a1, .int .u64 a2, .int .u64 a3] w fun e w' => e = .returned (.int .u64 r) ∧ Below w.heap.size w w' := by
  have HB := Aside0.mk (Below.refl w.heap.size w)
  have H : (if a1 = 4 then ((word_extended.f ((a2) % 4294967296)).bind fun t206 => ((word_extended.f ((a3) % 4294967296)).bind fun t207 => ((word_amo.f a0 t206 t207 ((a2) % 4294967296) ((a3) % 4294967296)).bind fun t208 => (some ((t208) % 4294967296))))) else ((word_amo.f a0 a2 a3 a2 a3).bind fun t209 => (some t209))) = some r := h
  clear h
  by_cases c5 : a1 = 4
  · rw [if_pos c5] at H
    have c5b0 : (a1 == 4) = true := beq_iff_eq.mpr c5
    have c5b1 : (a1 != 4) = false := bne_eq_false_iff_eq.mpr c5
    clear c5
    replace H := Option.bind_eq_some_iff.mp H
    obtain ⟨t206, A60, H⟩ := H
    replace H : ((word_extended.f ((a3) % 4294967296)).bind fun t207 => ((word_amo.f a0 t206 t207 ((a2) % 4294967296) ((a3) % 4294967296)).bind fun t208 => (some ((t208) % 4294967296)))) = some r := H
    have A6 := Aside0.mk A60
    clear A60
    replace H := Option.bind_eq_some_iff.mp H
    obtain ⟨t207, A70, H⟩ := H
    replace H : ((word_amo.f a0 t206 t207 ((a2) % 4294967296) ((a3) % 4294967296)).bind fun t208 => (some ((t208) % 4294967296))) = some r := H
    have A7 := Aside0.mk A70
    clear A70
    replace H := Option.bind_eq_some_iff.mp H
    obtain ⟨t208, A80, H⟩ := H
    replace H : (some ((t208) % 4294967296)) = some r := H
    have A8 := Aside0.mk A80
    clear A80
    obtain rfl := Option.some.inj H
    go_enter Try.func18, Try.ntmps18
    go_wp2_with (first | ((with_reducible refine gate_callee (f := 34) rfl ?_); refine goesL_ (some 15) rfl rfl Try.func34 (by kernel_rfl) rfl #[.int .u32 ((a2) % 4294967296)] rfl (by (try simp only [List.map_toArray, List.map_cons, List.map_nil]); first | done | rfl | (simp only [List.length_drop, List.length_take]; rfl)) ?_; (with_reducible refine (word_extended.calls ((a2) % 4294967296) t206 _ A6.out).mono ?_); rintro e w' ⟨rfl, ⟨nd, rfl⟩⟩; refine ⟨_, rfl, ?_⟩) | ((with_reducible refine gate_callee (f := 34) rfl ?_); refine goesL_ (some 18) rfl rfl Try.func34 (by kernel_rfl) rfl #[.int .u32 ((a3) % 4294967296)] rfl (by (try simp only [List.map_toArray, List.map_cons, List.map_nil]); first | done | rfl | (simp only [List.length_drop, List.length_take]; rfl)) ?_; (with_reducible refine (word_extended.calls ((a3) % 4294967296) t207 _ A7.out).mono ?_); rintro e w' ⟨rfl, ⟨nd, rfl⟩⟩; refine ⟨_, rfl, ?_⟩) | ((with_reducible refine gate_callee (f := 33) rfl ?_); refine goesL_ (some 25) rfl rfl Try.func33 (by kernel_rfl) rfl #[.int .i64 a0, .int .u64 t206, .int .u64 t207, .int .u64 ((a2) % 4294967296), .int .u64 ((a3) % 4294967296)] rfl (by (try simp only [List.map_toArray, List.map_cons, List.map_nil]); first | done | rfl | (simp only [List.length_drop, List.length_take]; rfl)) ?_; (with_reducible refine (word_amo.calls a0 t206 t207 ((a2) % 4294967296) ((a3) % 4294967296) t208 _ A8.out).mono ?_); rintro e w9 ⟨rfl, hb⟩; refine ⟨_, rfl, ?_⟩; have n0_ := Aside0.mk (below_step (by repeat (first | (with_reducible first | exact HB.out | apply below_alloc | apply pw_below_drewN | apply below_drew1) | exact HB.out)) hb); clear HB; have HB := n0_; clear n0_; (try clear hb); (try clear hb2); (try clear hk); (try clear hi)))
    go_ret
    exact ⟨by first | rfl | (simp [errW_none, errW_some] <;> rfl) | (simp [*, errW_none, errW_some] <;> rfl), by repeat (first | (with_reducible first | exact HB.out | apply below_alloc | apply pw_below_drewN | apply below_drew1) | exact HB.out)⟩
  · rw [if_neg c5] at H
    have c5b0 : (a1 == 4) = false := beq_eq_false_iff_ne.mpr c5
    have c5b1 : (a1 != 4) = true := bne_iff_ne.mpr c5
    replace H := Option.bind_eq_some_iff.mp H
    obtain ⟨t209, A100, H⟩ := H
    replace H : (some t209) = some r := H
    have A10 := Aside0.mk A100
    clear A100
    obtain rfl := Option.some.inj H
    go_enter Try.func18, Try.ntmps18
    go_wp2_with (first | ((with_reducible refine gate_callee (f := 33) rfl ?_); refine goesL_ (some 34) rfl rfl Try.func33 (by kernel_rfl) rfl #[.int .i64 a0, .int .u64 a2, .int .u64 a3, .int .u64 a2, .int .u64 a3] rfl (by (try simp only [List.map_toArray, List.map_cons, List.map_nil]); first | done | rfl | (simp only [List.length_drop, List.length_take]; rfl)) ?_; (with_reducible refine (word_amo.calls a0 a2 a3 a2 a3 t209 _ A10.out).mono ?_); rintro e w11 ⟨rfl, hb⟩; refine ⟨_, rfl, ?_⟩; have n0_ := Aside0.mk (below_step (by repeat (first | (with_reducible first | exact HB.out | apply below_alloc | apply pw_below_drewN | apply below_drew1) | exact HB.out)) hb); clear HB; have HB := n0_; clear n0_; (try clear hb); (try clear hb2); (try clear hk); (try clear hi)))
    go_ret
    exact ⟨by first | rfl | (simp [errW_none, errW_some] <;> rfl) | (simp [*, errW_none, errW_some] <;> rfl), by repeat (first | (with_reducible first | exact HB.out | apply below_alloc | apply pw_below_drewN | apply below_drew1) | exact HB.out)⟩

/-! ### citadellaw01_awake: function 17 -/
def citadellaw01_awake.f  : Option (Bool) := (word_Alu.f 8 9223372036854775808 63).bind fun t210 => (if t210 = 18446744073709551615 then ((word_Alu.f 15 7 0).bind fun t211 => (if t211 = 18446744073709551615 then ((word_Alu.f 19 2147483647 1).bind fun t212 => (if t212 = 18446744071562067968 then ((word_Amo.f 7 4 2147483648 1).bind fun t213 => (some (t213 == 1))) else (some false))) else (some false))) else (some false))
set_option maxHeartbeats 8000000 in
set_option maxRecDepth 100000 in
theorem citadellaw01_awake.calls  (r : Bool) (w : World) (h : citadellaw01_awake.f  = some r) :
    Calls Try.prog 17 #[] w fun e w' => e = .returned (.bool r) ∧ Below w.heap.size w w' := by
  have HB := Aside0.mk (Below.refl w.heap.size w)
  have H : ((word_Alu.f 8 9223372036854775808 63).bind fun t210 => (if t210 = 18446744073709551615 then ((word_Alu.f 15 7 0).bind fun t211 => (if t211 = 18446744073709551615 then ((word_Alu.f 19 2147483647 1).bind fun t212 => (if t212 = 18446744071562067968 then ((word_Amo.f 7 4 2147483648 1).bind fun t213 => (some (t213 == 1))) else (some false))) else (some false))) else (some false))) = some r := h
  clear h
  replace H := Option.bind_eq_some_iff.mp H
  obtain ⟨t210, A10, H⟩ := H
  replace H : (if t210 = 18446744073709551615 then ((word_Alu.f 15 7 0).bind fun t211 => (if t211 = 18446744073709551615 then ((word_Alu.f 19 2147483647 1).bind fun t212 => (if t212 = 18446744071562067968 then ((word_Amo.f 7 4 2147483648 1).bind fun t213 => (some (t213 == 1))) else (some false))) else (some false))) else (some false)) = some r := H
  have A1 := Aside0.mk A10
  clear A10
  by_cases c2 : t210 = 18446744073709551615
  · rw [if_pos c2] at H
    have c2b0 : (t210 == 18446744073709551615) = true := beq_iff_eq.mpr c2
    have c2b1 : (t210 != 18446744073709551615) = false := bne_eq_false_iff_eq.mpr c2
    clear c2
    replace H := Option.bind_eq_some_iff.mp H
    obtain ⟨t211, A30, H⟩ := H
    replace H : (if t211 = 18446744073709551615 then ((word_Alu.f 19 2147483647 1).bind fun t212 => (if t212 = 18446744071562067968 then ((word_Amo.f 7 4 2147483648 1).bind fun t213 => (some (t213 == 1))) else (some false))) else (some false)) = some r := H
    have A3 := Aside0.mk A30
    clear A30
    by_cases c4 : t211 = 18446744073709551615
    · rw [if_pos c4] at H
      have c4b0 : (t211 == 18446744073709551615) = true := beq_iff_eq.mpr c4
      have c4b1 : (t211 != 18446744073709551615) = false := bne_eq_false_iff_eq.mpr c4
      clear c4
      replace H := Option.bind_eq_some_iff.mp H
      obtain ⟨t212, A50, H⟩ := H
      replace H : (if t212 = 18446744071562067968 then ((word_Amo.f 7 4 2147483648 1).bind fun t213 => (some (t213 == 1))) else (some false)) = some r := H
      have A5 := Aside0.mk A50
      clear A50
      by_cases c6 : t212 = 18446744071562067968
      · rw [if_pos c6] at H
        have c6b0 : (t212 == 18446744071562067968) = true := beq_iff_eq.mpr c6
        have c6b1 : (t212 != 18446744071562067968) = false := bne_eq_false_iff_eq.mpr c6
        clear c6
        replace H := Option.bind_eq_some_iff.mp H
        obtain ⟨t213, A70, H⟩ := H
        replace H : (some (t213 == 1)) = some r := H
        have A7 := Aside0.mk A70
        clear A70
        obtain rfl := Option.some.inj H
        go_enter Try.func17, Try.ntmps17
        go_wp2_with (first | ((with_reducible refine gate_callee (f := 15) rfl ?_); refine goesL_ (some 1) rfl rfl Try.func15 (by kernel_rfl) rfl #[.int .i64 8, .int .u64 9223372036854775808, .int .u64 63] rfl (by (try simp only [List.map_toArray, List.map_cons, List.map_nil]); first | done | rfl | (simp only [List.length_drop, List.length_take]; rfl)) ?_; (with_reducible refine (word_Alu.calls 8 9223372036854775808 63 t210 _ A1.out).mono ?_); rintro e w8 ⟨rfl, hb⟩; refine ⟨_, rfl, ?_⟩; have n0_ := Aside0.mk (below_step (by repeat (first | (with_reducible first | exact HB.out | apply below_alloc | apply pw_below_drewN | apply below_drew1) | exact HB.out)) hb); clear HB; have HB := n0_; clear n0_; (try clear hb); (try clear hb2); (try clear hk); (try clear hi)) | (go_at_call 15; (with_reducible refine (word_Alu.calls 15 7 0 t211 _ A3.out).mono ?_); rintro e w9 ⟨rfl, hb⟩; have n0_ := Aside0.mk (below_step (by repeat (first | (with_reducible first | exact HB.out | apply below_alloc | apply pw_below_drewN | apply below_drew1) | exact HB.out)) hb); clear HB; have HB := n0_; clear n0_; (try clear hb); (try clear hb2); (try clear hk); (try clear hi)) | (go_at_call 15; (with_reducible refine (word_Alu.calls 19 2147483647 1 t212 _ A5.out).mono ?_); rintro e w10 ⟨rfl, hb⟩; have n0_ := Aside0.mk (below_step (by repeat (first | (with_reducible first | exact HB.out | apply below_alloc | apply pw_below_drewN | apply below_drew1) | exact HB.out)) hb); clear HB; have HB := n0_; clear n0_; (try clear hb); (try clear hb2); (try clear hk); (try clear hi)) | (go_at_call 18; (with_reducible refine (word_Amo.calls 7 4 2147483648 1 t213 _ A7.out).mono ?_); rintro e w11 ⟨rfl, hb⟩; have n0_ := Aside0.mk (below_step (by repeat (first | (with_reducible first | exact HB.out | apply below_alloc | apply pw_below_drewN | apply below_drew1) | exact HB.out)) hb); clear HB; have HB := n0_; clear n0_; (try clear hb); (try clear hb2); (try clear hk); (try clear hi)))
        go_ret
        exact ⟨by first | rfl | (simp [errW_none, errW_some] <;> rfl) | (simp [*, errW_none, errW_some] <;> rfl), by repeat (first | (with_reducible first | exact HB.out | apply below_alloc | apply pw_below_drewN | apply below_drew1) | exact HB.out)⟩
      · rw [if_neg c6] at H
        have c6b0 : (t212 == 18446744071562067968) = false := beq_eq_false_iff_ne.mpr c6
        have c6b1 : (t212 != 18446744071562067968) = true := bne_iff_ne.mpr c6
        obtain rfl := Option.some.inj H
        go_enter Try.func17, Try.ntmps17
        go_wp2_with (first | ((with_reducible refine gate_callee (f := 15) rfl ?_); refine goesL_ (some 1) rfl rfl Try.func15 (by kernel_rfl) rfl #[.int .i64 8, .int .u64 9223372036854775808, .int .u64 63] rfl (by (try simp only [List.map_toArray, List.map_cons, List.map_nil]); first | done | rfl | (simp only [List.length_drop, List.length_take]; rfl)) ?_; (with_reducible refine (word_Alu.calls 8 9223372036854775808 63 t210 _ A1.out).mono ?_); rintro e w12 ⟨rfl, hb⟩; refine ⟨_, rfl, ?_⟩; have n0_ := Aside0.mk (below_step (by repeat (first | (with_reducible first | exact HB.out | apply below_alloc | apply pw_below_drewN | apply below_drew1) | exact HB.out)) hb); clear HB; have HB := n0_; clear n0_; (try clear hb); (try clear hb2); (try clear hk); (try clear hi)) | (go_at_call 15; (with_reducible refine (word_Alu.calls 15 7 0 t211 _ A3.out).mono ?_); rintro e w13 ⟨rfl, hb⟩; have n0_ := Aside0.mk (below_step (by repeat (first | (with_reducible first | exact HB.out | apply below_alloc | apply pw_below_drewN | apply below_drew1) | exact HB.out)) hb); clear HB; have HB := n0_; clear n0_; (try clear hb); (try clear hb2); (try clear hk); (try clear hi)) | (go_at_call 15; (with_reducible refine (word_Alu.calls 19 2147483647 1 t212 _ A5.out).mono ?_); rintro e w14 ⟨rfl, hb⟩; have n0_ := Aside0.mk (below_step (by repeat (first | (with_reducible first | exact HB.out | apply below_alloc | apply pw_below_drewN | apply below_drew1) | exact HB.out)) hb); clear HB; have HB := n0_; clear n0_; (try clear hb); (try clear hb2); (try clear hk); (try clear hi)))
        go_ret
        exact ⟨by first | rfl | (simp [errW_none, errW_some] <;> rfl) | (simp [*, errW_none, errW_some] <;> rfl), by repeat (first | (with_reducible first | exact HB.out | apply below_alloc | apply pw_below_drewN | apply below_drew1) | exact HB.out)⟩
    · rw [if_neg c4] at H
      have c4b0 : (t211 == 18446744073709551615) = false := beq_eq_false_iff_ne.mpr c4
      have c4b1 : (t211 != 18446744073709551615) = true := bne_iff_ne.mpr c4
      obtain rfl := Option.some.inj H
      go_enter Try.func17, Try.ntmps17
      go_wp2_with (first | ((with_reducible refine gate_callee (f := 15) rfl ?_); refine goesL_ (some 1) rfl rfl Try.func15 (by kernel_rfl) rfl #[.int .i64 8, .int .u64 9223372036854775808, .int .u64 63] rfl (by (try simp only [List.map_toArray, List.map_cons, List.map_nil]); first | done | rfl | (simp only [List.length_drop, List.length_take]; rfl)) ?_; (with_reducible refine (word_Alu.calls 8 9223372036854775808 63 t210 _ A1.out).mono ?_); rintro e w15 ⟨rfl, hb⟩; refine ⟨_, rfl, ?_⟩; have n0_ := Aside0.mk (below_step (by repeat (first | (with_reducible first | exact HB.out | apply below_alloc | apply pw_below_drewN | apply below_drew1) | exact HB.out)) hb); clear HB; have HB := n0_; clear n0_; (try clear hb); (try clear hb2); (try clear hk); (try clear hi)) | (go_at_call 15; (with_reducible refine (word_Alu.calls 15 7 0 t211 _ A3.out).mono ?_); rintro e w16 ⟨rfl, hb⟩; have n0_ := Aside0.mk (below_step (by repeat (first | (with_reducible first | exact HB.out | apply below_alloc | apply pw_below_drewN | apply below_drew1) | exact HB.out)) hb); clear HB; have HB := n0_; clear n0_; (try clear hb); (try clear hb2); (try clear hk); (try clear hi)))
      go_ret
      exact ⟨by first | rfl | (simp [errW_none, errW_some] <;> rfl) | (simp [*, errW_none, errW_some] <;> rfl), by repeat (first | (with_reducible first | exact HB.out | apply below_alloc | apply pw_below_drewN | apply below_drew1) | exact HB.out)⟩
  · rw [if_neg c2] at H
    have c2b0 : (t210 == 18446744073709551615) = false := beq_eq_false_iff_ne.mpr c2
    have c2b1 : (t210 != 18446744073709551615) = true := bne_iff_ne.mpr c2
    obtain rfl := Option.some.inj H
    go_enter Try.func17, Try.ntmps17
    go_wp2_with (first | ((with_reducible refine gate_callee (f := 15) rfl ?_); refine goesL_ (some 1) rfl rfl Try.func15 (by kernel_rfl) rfl #[.int .i64 8, .int .u64 9223372036854775808, .int .u64 63] rfl (by (try simp only [List.map_toArray, List.map_cons, List.map_nil]); first | done | rfl | (simp only [List.length_drop, List.length_take]; rfl)) ?_; (with_reducible refine (word_Alu.calls 8 9223372036854775808 63 t210 _ A1.out).mono ?_); rintro e w17 ⟨rfl, hb⟩; refine ⟨_, rfl, ?_⟩; have n0_ := Aside0.mk (below_step (by repeat (first | (with_reducible first | exact HB.out | apply below_alloc | apply pw_below_drewN | apply below_drew1) | exact HB.out)) hb); clear HB; have HB := n0_; clear n0_; (try clear hb); (try clear hb2); (try clear hk); (try clear hi)))
    go_ret
    exact ⟨by first | rfl | (simp [errW_none, errW_some] <;> rfl) | (simp [*, errW_none, errW_some] <;> rfl), by repeat (first | (with_reducible first | exact HB.out | apply below_alloc | apply pw_below_drewN | apply below_drew1) | exact HB.out)⟩

end Go.Proofs.Ytmfbijfghonnjaa.PA
