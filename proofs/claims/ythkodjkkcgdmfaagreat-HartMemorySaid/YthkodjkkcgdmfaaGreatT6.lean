/- Parts of the walks and laws for the claim: WdB; no conditions beyond the theorems' own. -/
import Derived.Test.YthkodjkkcgdmfaaGreatT5
section
namespace Go.Proofs.YthkodjkkcgdmfaaGreat.Hart
open Go Go.RowKit Go.Proofs.YthkodjkkcgdmfaaGreat.Step Go.Proofs.YthkodjkkcgdmfaaGreat.Enc Go.Proofs.YthkodjkkcgdmfaaGreat.Kn
set_option linter.unusedVariables false
set_option linter.unusedSimpArgs false
set_option maxRecDepth 100000
/-- word.Alu answers a word, ever the same. -/
def AluAns (fn a b : Int) : Prop := ∃ r, U64 r ∧ ∀ w, Calls Tryz.prog 129 #[.int .i64 fn, .int .u64 a, .int .u64 b] w fun e w' => e = .returned (.int .u64 r) ∧ Below w.heap.size w w'
theorem neq_fn (f : Fn) (w : World) : (binOp .neq 205 (.func f #[] #[]) .nilFunc).run Tryz.prog w = .ok (.bool true) w := by kernel_rfl
theorem neq_nil (w : World) : (binOp .neq 205 .nilFunc .nilFunc).run Tryz.prog w = .ok (.bool false) w := by kernel_rfl
set_option maxHeartbeats 4000000 in
theorem oper_1 (w : World) : Calls Tryz.prog 152 #[.int .i64 1] w fun e w' => e = .returned (.func (.func 183) #[] #[]) ∧ w = w' := by
  go_enter Tryz.func152, Tryz.ntmps152
  go_wp2
  go_ret
  exact ⟨rfl, rfl⟩
set_option maxHeartbeats 4000000 in
theorem alu_1 {a b : Int} (h : Ans 183 a b) : AluAns 1 a b := by
  obtain ⟨r, hr, T⟩ := h
  refine ⟨r, hr, fun w => ?_⟩
  have T0 := Lib.hid T
  clear T
  have hn := neq_fn
  go_enter Tryz.func129, Tryz.ntmps129
  go_wp2_with (first | (go_at_call 152; refine (oper_1 _).mono ?_; rintro e w' ⟨rfl, rfl⟩) | (go_at_call 183; refine (T0.out _).mono ?_; rintro e w1 ⟨rfl, hb⟩))
  go_ret
  exact ⟨rfl, hb⟩
set_option maxHeartbeats 4000000 in
theorem oper_2 (w : World) : Calls Tryz.prog 152 #[.int .i64 2] w fun e w' => e = .returned (.func (.func 184) #[] #[]) ∧ w = w' := by
  go_enter Tryz.func152, Tryz.ntmps152
  go_wp2
  go_ret
  exact ⟨rfl, rfl⟩
set_option maxHeartbeats 4000000 in
theorem alu_2 {a b : Int} (h : Ans 184 a b) : AluAns 2 a b := by
  obtain ⟨r, hr, T⟩ := h
  refine ⟨r, hr, fun w => ?_⟩
  have T0 := Lib.hid T
  clear T
  have hn := neq_fn
  go_enter Tryz.func129, Tryz.ntmps129
  go_wp2_with (first | (go_at_call 152; refine (oper_2 _).mono ?_; rintro e w' ⟨rfl, rfl⟩) | (go_at_call 184; refine (T0.out _).mono ?_; rintro e w1 ⟨rfl, hb⟩))
  go_ret
  exact ⟨rfl, hb⟩
set_option maxHeartbeats 4000000 in
theorem oper_3 (w : World) : Calls Tryz.prog 152 #[.int .i64 3] w fun e w' => e = .returned (.func (.func 185) #[] #[]) ∧ w = w' := by
  go_enter Tryz.func152, Tryz.ntmps152
  go_wp2
  go_ret
  exact ⟨rfl, rfl⟩
set_option maxHeartbeats 4000000 in
theorem alu_3 {a b : Int} (h : Ans 185 a b) : AluAns 3 a b := by
  obtain ⟨r, hr, T⟩ := h
  refine ⟨r, hr, fun w => ?_⟩
  have T0 := Lib.hid T
  clear T
  have hn := neq_fn
  go_enter Tryz.func129, Tryz.ntmps129
  go_wp2_with (first | (go_at_call 152; refine (oper_3 _).mono ?_; rintro e w' ⟨rfl, rfl⟩) | (go_at_call 185; refine (T0.out _).mono ?_; rintro e w1 ⟨rfl, hb⟩))
  go_ret
  exact ⟨rfl, hb⟩
set_option maxHeartbeats 4000000 in
theorem oper_4 (w : World) : Calls Tryz.prog 152 #[.int .i64 4] w fun e w' => e = .returned (.func (.func 186) #[] #[]) ∧ w = w' := by
  go_enter Tryz.func152, Tryz.ntmps152
  go_wp2
  go_ret
  exact ⟨rfl, rfl⟩
set_option maxHeartbeats 4000000 in
theorem alu_4 {a b : Int} (h : Ans 186 a b) : AluAns 4 a b := by
  obtain ⟨r, hr, T⟩ := h
  refine ⟨r, hr, fun w => ?_⟩
  have T0 := Lib.hid T
  clear T
  have hn := neq_fn
  go_enter Tryz.func129, Tryz.ntmps129
  go_wp2_with (first | (go_at_call 152; refine (oper_4 _).mono ?_; rintro e w' ⟨rfl, rfl⟩) | (go_at_call 186; refine (T0.out _).mono ?_; rintro e w1 ⟨rfl, hb⟩))
  go_ret
  exact ⟨rfl, hb⟩
set_option maxHeartbeats 4000000 in
theorem oper_5 (w : World) : Calls Tryz.prog 152 #[.int .i64 5] w fun e w' => e = .returned (.func (.func 187) #[] #[]) ∧ w = w' := by
  go_enter Tryz.func152, Tryz.ntmps152
  go_wp2
  go_ret
  exact ⟨rfl, rfl⟩
set_option maxHeartbeats 4000000 in
theorem alu_5 {a b : Int} (h : Ans 187 a b) : AluAns 5 a b := by
  obtain ⟨r, hr, T⟩ := h
  refine ⟨r, hr, fun w => ?_⟩
  have T0 := Lib.hid T
  clear T
  have hn := neq_fn
  go_enter Tryz.func129, Tryz.ntmps129
  go_wp2_with (first | (go_at_call 152; refine (oper_5 _).mono ?_; rintro e w' ⟨rfl, rfl⟩) | (go_at_call 187; refine (T0.out _).mono ?_; rintro e w1 ⟨rfl, hb⟩))
  go_ret
  exact ⟨rfl, hb⟩
set_option maxHeartbeats 4000000 in
theorem oper_6 (w : World) : Calls Tryz.prog 152 #[.int .i64 6] w fun e w' => e = .returned (.func (.func 188) #[] #[]) ∧ w = w' := by
  go_enter Tryz.func152, Tryz.ntmps152
  go_wp2
  go_ret
  exact ⟨rfl, rfl⟩
set_option maxHeartbeats 4000000 in
theorem alu_6 {a b : Int} (h : Ans 188 a b) : AluAns 6 a b := by
  obtain ⟨r, hr, T⟩ := h
  refine ⟨r, hr, fun w => ?_⟩
  have T0 := Lib.hid T
  clear T
  have hn := neq_fn
  go_enter Tryz.func129, Tryz.ntmps129
  go_wp2_with (first | (go_at_call 152; refine (oper_6 _).mono ?_; rintro e w' ⟨rfl, rfl⟩) | (go_at_call 188; refine (T0.out _).mono ?_; rintro e w1 ⟨rfl, hb⟩))
  go_ret
  exact ⟨rfl, hb⟩
set_option maxHeartbeats 4000000 in
theorem oper_7 (w : World) : Calls Tryz.prog 152 #[.int .i64 7] w fun e w' => e = .returned (.func (.func 189) #[] #[]) ∧ w = w' := by
  go_enter Tryz.func152, Tryz.ntmps152
  go_wp2
  go_ret
  exact ⟨rfl, rfl⟩
set_option maxHeartbeats 4000000 in
theorem alu_7 {a b : Int} (h : Ans 189 a b) : AluAns 7 a b := by
  obtain ⟨r, hr, T⟩ := h
  refine ⟨r, hr, fun w => ?_⟩
  have T0 := Lib.hid T
  clear T
  have hn := neq_fn
  go_enter Tryz.func129, Tryz.ntmps129
  go_wp2_with (first | (go_at_call 152; refine (oper_7 _).mono ?_; rintro e w' ⟨rfl, rfl⟩) | (go_at_call 189; refine (T0.out _).mono ?_; rintro e w1 ⟨rfl, hb⟩))
  go_ret
  exact ⟨rfl, hb⟩
set_option maxHeartbeats 4000000 in
theorem oper_8 (w : World) : Calls Tryz.prog 152 #[.int .i64 8] w fun e w' => e = .returned (.func (.func 190) #[] #[]) ∧ w = w' := by
  go_enter Tryz.func152, Tryz.ntmps152
  go_wp2
  go_ret
  exact ⟨rfl, rfl⟩
set_option maxHeartbeats 4000000 in
theorem alu_8 {a b : Int} (h : Ans 190 a b) : AluAns 8 a b := by
  obtain ⟨r, hr, T⟩ := h
  refine ⟨r, hr, fun w => ?_⟩
  have T0 := Lib.hid T
  clear T
  have hn := neq_fn
  go_enter Tryz.func129, Tryz.ntmps129
  go_wp2_with (first | (go_at_call 152; refine (oper_8 _).mono ?_; rintro e w' ⟨rfl, rfl⟩) | (go_at_call 190; refine (T0.out _).mono ?_; rintro e w1 ⟨rfl, hb⟩))
  go_ret
  exact ⟨rfl, hb⟩
set_option maxHeartbeats 4000000 in
theorem oper_9 (w : World) : Calls Tryz.prog 152 #[.int .i64 9] w fun e w' => e = .returned (.func (.func 191) #[] #[]) ∧ w = w' := by
  go_enter Tryz.func152, Tryz.ntmps152
  go_wp2
  go_ret
  exact ⟨rfl, rfl⟩
set_option maxHeartbeats 4000000 in
theorem alu_9 {a b : Int} (h : Ans 191 a b) : AluAns 9 a b := by
  obtain ⟨r, hr, T⟩ := h
  refine ⟨r, hr, fun w => ?_⟩
  have T0 := Lib.hid T
  clear T
  have hn := neq_fn
  go_enter Tryz.func129, Tryz.ntmps129
  go_wp2_with (first | (go_at_call 152; refine (oper_9 _).mono ?_; rintro e w' ⟨rfl, rfl⟩) | (go_at_call 191; refine (T0.out _).mono ?_; rintro e w1 ⟨rfl, hb⟩))
  go_ret
  exact ⟨rfl, hb⟩
set_option maxHeartbeats 4000000 in
theorem oper_10 (w : World) : Calls Tryz.prog 152 #[.int .i64 10] w fun e w' => e = .returned (.func (.func 192) #[] #[]) ∧ w = w' := by
  go_enter Tryz.func152, Tryz.ntmps152
  go_wp2
  go_ret
  exact ⟨rfl, rfl⟩
set_option maxHeartbeats 4000000 in
theorem alu_10 {a b : Int} (h : Ans 192 a b) : AluAns 10 a b := by
  obtain ⟨r, hr, T⟩ := h
  refine ⟨r, hr, fun w => ?_⟩
  have T0 := Lib.hid T
  clear T
  have hn := neq_fn
  go_enter Tryz.func129, Tryz.ntmps129
  go_wp2_with (first | (go_at_call 152; refine (oper_10 _).mono ?_; rintro e w' ⟨rfl, rfl⟩) | (go_at_call 192; refine (T0.out _).mono ?_; rintro e w1 ⟨rfl, hb⟩))
  go_ret
  exact ⟨rfl, hb⟩
set_option maxHeartbeats 4000000 in
theorem oper_11 (w : World) : Calls Tryz.prog 152 #[.int .i64 11] w fun e w' => e = .returned (.func (.func 193) #[] #[]) ∧ w = w' := by
  go_enter Tryz.func152, Tryz.ntmps152
  go_wp2
  go_ret
  exact ⟨rfl, rfl⟩
set_option maxHeartbeats 4000000 in
theorem alu_11 {a b : Int} (h : Ans 193 a b) : AluAns 11 a b := by
  obtain ⟨r, hr, T⟩ := h
  refine ⟨r, hr, fun w => ?_⟩
  have T0 := Lib.hid T
  clear T
  have hn := neq_fn
  go_enter Tryz.func129, Tryz.ntmps129
  go_wp2_with (first | (go_at_call 152; refine (oper_11 _).mono ?_; rintro e w' ⟨rfl, rfl⟩) | (go_at_call 193; refine (T0.out _).mono ?_; rintro e w1 ⟨rfl, hb⟩))
  go_ret
  exact ⟨rfl, hb⟩
set_option maxHeartbeats 4000000 in
theorem oper_12 (w : World) : Calls Tryz.prog 152 #[.int .i64 12] w fun e w' => e = .returned (.func (.func 194) #[] #[]) ∧ w = w' := by
  go_enter Tryz.func152, Tryz.ntmps152
  go_wp2
  go_ret
  exact ⟨rfl, rfl⟩
set_option maxHeartbeats 4000000 in
theorem alu_12 {a b : Int} (h : Ans 194 a b) : AluAns 12 a b := by
  obtain ⟨r, hr, T⟩ := h
  refine ⟨r, hr, fun w => ?_⟩
  have T0 := Lib.hid T
  clear T
  have hn := neq_fn
  go_enter Tryz.func129, Tryz.ntmps129
  go_wp2_with (first | (go_at_call 152; refine (oper_12 _).mono ?_; rintro e w' ⟨rfl, rfl⟩) | (go_at_call 194; refine (T0.out _).mono ?_; rintro e w1 ⟨rfl, hb⟩))
  go_ret
  exact ⟨rfl, hb⟩
set_option maxHeartbeats 4000000 in
theorem oper_13 (w : World) : Calls Tryz.prog 152 #[.int .i64 13] w fun e w' => e = .returned (.func (.func 195) #[] #[]) ∧ w = w' := by
  go_enter Tryz.func152, Tryz.ntmps152
  go_wp2
  go_ret
  exact ⟨rfl, rfl⟩
set_option maxHeartbeats 4000000 in
theorem alu_13 {a b : Int} (h : Ans 195 a b) : AluAns 13 a b := by
  obtain ⟨r, hr, T⟩ := h
  refine ⟨r, hr, fun w => ?_⟩
  have T0 := Lib.hid T
  clear T
  have hn := neq_fn
  go_enter Tryz.func129, Tryz.ntmps129
  go_wp2_with (first | (go_at_call 152; refine (oper_13 _).mono ?_; rintro e w' ⟨rfl, rfl⟩) | (go_at_call 195; refine (T0.out _).mono ?_; rintro e w1 ⟨rfl, hb⟩))
  go_ret
  exact ⟨rfl, hb⟩
set_option maxHeartbeats 4000000 in
theorem oper_14 (w : World) : Calls Tryz.prog 152 #[.int .i64 14] w fun e w' => e = .returned (.func (.func 196) #[] #[]) ∧ w = w' := by
  go_enter Tryz.func152, Tryz.ntmps152
  go_wp2
  go_ret
  exact ⟨rfl, rfl⟩
set_option maxHeartbeats 4000000 in
theorem alu_14 {a b : Int} (h : Ans 196 a b) : AluAns 14 a b := by
  obtain ⟨r, hr, T⟩ := h
  refine ⟨r, hr, fun w => ?_⟩
  have T0 := Lib.hid T
  clear T
  have hn := neq_fn
  go_enter Tryz.func129, Tryz.ntmps129
  go_wp2_with (first | (go_at_call 152; refine (oper_14 _).mono ?_; rintro e w' ⟨rfl, rfl⟩) | (go_at_call 196; refine (T0.out _).mono ?_; rintro e w1 ⟨rfl, hb⟩))
  go_ret
  exact ⟨rfl, hb⟩
set_option maxHeartbeats 4000000 in
theorem oper_15 (w : World) : Calls Tryz.prog 152 #[.int .i64 15] w fun e w' => e = .returned (.func (.func 197) #[] #[]) ∧ w = w' := by
  go_enter Tryz.func152, Tryz.ntmps152
  go_wp2
  go_ret
  exact ⟨rfl, rfl⟩
set_option maxHeartbeats 4000000 in
theorem alu_15 {a b : Int} (h : Ans 197 a b) : AluAns 15 a b := by
  obtain ⟨r, hr, T⟩ := h
  refine ⟨r, hr, fun w => ?_⟩
  have T0 := Lib.hid T
  clear T
  have hn := neq_fn
  go_enter Tryz.func129, Tryz.ntmps129
  go_wp2_with (first | (go_at_call 152; refine (oper_15 _).mono ?_; rintro e w' ⟨rfl, rfl⟩) | (go_at_call 197; refine (T0.out _).mono ?_; rintro e w1 ⟨rfl, hb⟩))
  go_ret
  exact ⟨rfl, hb⟩
set_option maxHeartbeats 4000000 in
theorem oper_16 (w : World) : Calls Tryz.prog 152 #[.int .i64 16] w fun e w' => e = .returned (.func (.func 198) #[] #[]) ∧ w = w' := by
  go_enter Tryz.func152, Tryz.ntmps152
  go_wp2
  go_ret
  exact ⟨rfl, rfl⟩
set_option maxHeartbeats 4000000 in
theorem alu_16 {a b : Int} (h : Ans 198 a b) : AluAns 16 a b := by
  obtain ⟨r, hr, T⟩ := h
  refine ⟨r, hr, fun w => ?_⟩
  have T0 := Lib.hid T
  clear T
  have hn := neq_fn
  go_enter Tryz.func129, Tryz.ntmps129
  go_wp2_with (first | (go_at_call 152; refine (oper_16 _).mono ?_; rintro e w' ⟨rfl, rfl⟩) | (go_at_call 198; refine (T0.out _).mono ?_; rintro e w1 ⟨rfl, hb⟩))
  go_ret
  exact ⟨rfl, hb⟩
set_option maxHeartbeats 4000000 in
theorem oper_17 (w : World) : Calls Tryz.prog 152 #[.int .i64 17] w fun e w' => e = .returned (.func (.func 199) #[] #[]) ∧ w = w' := by
  go_enter Tryz.func152, Tryz.ntmps152
  go_wp2
  go_ret
  exact ⟨rfl, rfl⟩
set_option maxHeartbeats 4000000 in
theorem alu_17 {a b : Int} (h : Ans 199 a b) : AluAns 17 a b := by
  obtain ⟨r, hr, T⟩ := h
  refine ⟨r, hr, fun w => ?_⟩
  have T0 := Lib.hid T
  clear T
  have hn := neq_fn
  go_enter Tryz.func129, Tryz.ntmps129
  go_wp2_with (first | (go_at_call 152; refine (oper_17 _).mono ?_; rintro e w' ⟨rfl, rfl⟩) | (go_at_call 199; refine (T0.out _).mono ?_; rintro e w1 ⟨rfl, hb⟩))
  go_ret
  exact ⟨rfl, hb⟩
set_option maxHeartbeats 4000000 in
theorem oper_18 (w : World) : Calls Tryz.prog 152 #[.int .i64 18] w fun e w' => e = .returned (.func (.func 200) #[] #[]) ∧ w = w' := by
  go_enter Tryz.func152, Tryz.ntmps152
  go_wp2
  go_ret
  exact ⟨rfl, rfl⟩
set_option maxHeartbeats 4000000 in
theorem alu_18 {a b : Int} (h : Ans 200 a b) : AluAns 18 a b := by
  obtain ⟨r, hr, T⟩ := h
  refine ⟨r, hr, fun w => ?_⟩
  have T0 := Lib.hid T
  clear T
  have hn := neq_fn
  go_enter Tryz.func129, Tryz.ntmps129
  go_wp2_with (first | (go_at_call 152; refine (oper_18 _).mono ?_; rintro e w' ⟨rfl, rfl⟩) | (go_at_call 200; refine (T0.out _).mono ?_; rintro e w1 ⟨rfl, hb⟩))
  go_ret
  exact ⟨rfl, hb⟩
theorem narrow_19 (w : World) : Calls Tryz.prog 201 #[.int .i64 19] w fun e w' => e = .returned (.func (.func 232) #[] #[]) ∧ w = w' := by
  go_enter Tryz.func201, Tryz.ntmps201
  go_wp2
  go_ret
  exact ⟨rfl, rfl⟩
set_option maxHeartbeats 4000000 in
theorem oper_19 (w : World) : Calls Tryz.prog 152 #[.int .i64 19] w fun e w' => e = .returned (.func (.func 232) #[] #[]) ∧ w = w' := by
  go_enter Tryz.func152, Tryz.ntmps152
  go_wp2_with (go_at_call 201; refine (narrow_19 _).mono ?_; rintro e w' ⟨rfl, rfl⟩)
  go_ret
  exact ⟨rfl, rfl⟩
set_option maxHeartbeats 4000000 in
theorem alu_19 {a b : Int} (h : Ans 232 a b) : AluAns 19 a b := by
  obtain ⟨r, hr, T⟩ := h
  refine ⟨r, hr, fun w => ?_⟩
  have T0 := Lib.hid T
  clear T
  have hn := neq_fn
  go_enter Tryz.func129, Tryz.ntmps129
  go_wp2_with (first | (go_at_call 152; refine (oper_19 _).mono ?_; rintro e w' ⟨rfl, rfl⟩) | (go_at_call 232; refine (T0.out _).mono ?_; rintro e w1 ⟨rfl, hb⟩))
  go_ret
  exact ⟨rfl, hb⟩
theorem narrow_20 (w : World) : Calls Tryz.prog 201 #[.int .i64 20] w fun e w' => e = .returned (.func (.func 233) #[] #[]) ∧ w = w' := by
  go_enter Tryz.func201, Tryz.ntmps201
  go_wp2
  go_ret
  exact ⟨rfl, rfl⟩
set_option maxHeartbeats 4000000 in
theorem oper_20 (w : World) : Calls Tryz.prog 152 #[.int .i64 20] w fun e w' => e = .returned (.func (.func 233) #[] #[]) ∧ w = w' := by
  go_enter Tryz.func152, Tryz.ntmps152
  go_wp2_with (go_at_call 201; refine (narrow_20 _).mono ?_; rintro e w' ⟨rfl, rfl⟩)
  go_ret
  exact ⟨rfl, rfl⟩
set_option maxHeartbeats 4000000 in
theorem alu_20 {a b : Int} (h : Ans 233 a b) : AluAns 20 a b := by
  obtain ⟨r, hr, T⟩ := h
  refine ⟨r, hr, fun w => ?_⟩
  have T0 := Lib.hid T
  clear T
  have hn := neq_fn
  go_enter Tryz.func129, Tryz.ntmps129
  go_wp2_with (first | (go_at_call 152; refine (oper_20 _).mono ?_; rintro e w' ⟨rfl, rfl⟩) | (go_at_call 233; refine (T0.out _).mono ?_; rintro e w1 ⟨rfl, hb⟩))
  go_ret
  exact ⟨rfl, hb⟩
theorem narrow_21 (w : World) : Calls Tryz.prog 201 #[.int .i64 21] w fun e w' => e = .returned (.func (.func 234) #[] #[]) ∧ w = w' := by
  go_enter Tryz.func201, Tryz.ntmps201
  go_wp2
  go_ret
  exact ⟨rfl, rfl⟩
set_option maxHeartbeats 4000000 in
theorem oper_21 (w : World) : Calls Tryz.prog 152 #[.int .i64 21] w fun e w' => e = .returned (.func (.func 234) #[] #[]) ∧ w = w' := by
  go_enter Tryz.func152, Tryz.ntmps152
  go_wp2_with (go_at_call 201; refine (narrow_21 _).mono ?_; rintro e w' ⟨rfl, rfl⟩)
  go_ret
  exact ⟨rfl, rfl⟩
set_option maxHeartbeats 4000000 in
theorem alu_21 {a b : Int} (h : Ans 234 a b) : AluAns 21 a b := by
  obtain ⟨r, hr, T⟩ := h
  refine ⟨r, hr, fun w => ?_⟩
  have T0 := Lib.hid T
  clear T
  have hn := neq_fn
  go_enter Tryz.func129, Tryz.ntmps129
  go_wp2_with (first | (go_at_call 152; refine (oper_21 _).mono ?_; rintro e w' ⟨rfl, rfl⟩) | (go_at_call 234; refine (T0.out _).mono ?_; rintro e w1 ⟨rfl, hb⟩))
  go_ret
  exact ⟨rfl, hb⟩
theorem narrow_22 (w : World) : Calls Tryz.prog 201 #[.int .i64 22] w fun e w' => e = .returned (.func (.func 235) #[] #[]) ∧ w = w' := by
  go_enter Tryz.func201, Tryz.ntmps201
  go_wp2
  go_ret
  exact ⟨rfl, rfl⟩
set_option maxHeartbeats 4000000 in
theorem oper_22 (w : World) : Calls Tryz.prog 152 #[.int .i64 22] w fun e w' => e = .returned (.func (.func 235) #[] #[]) ∧ w = w' := by
  go_enter Tryz.func152, Tryz.ntmps152
  go_wp2_with (go_at_call 201; refine (narrow_22 _).mono ?_; rintro e w' ⟨rfl, rfl⟩)
  go_ret
  exact ⟨rfl, rfl⟩
set_option maxHeartbeats 4000000 in
theorem alu_22 {a b : Int} (h : Ans 235 a b) : AluAns 22 a b := by
  obtain ⟨r, hr, T⟩ := h
  refine ⟨r, hr, fun w => ?_⟩
  have T0 := Lib.hid T
  clear T
  have hn := neq_fn
  go_enter Tryz.func129, Tryz.ntmps129
  go_wp2_with (first | (go_at_call 152; refine (oper_22 _).mono ?_; rintro e w' ⟨rfl, rfl⟩) | (go_at_call 235; refine (T0.out _).mono ?_; rintro e w1 ⟨rfl, hb⟩))
  go_ret
  exact ⟨rfl, hb⟩
theorem narrow_23 (w : World) : Calls Tryz.prog 201 #[.int .i64 23] w fun e w' => e = .returned (.func (.func 236) #[] #[]) ∧ w = w' := by
  go_enter Tryz.func201, Tryz.ntmps201
  go_wp2
  go_ret
  exact ⟨rfl, rfl⟩
set_option maxHeartbeats 4000000 in
theorem oper_23 (w : World) : Calls Tryz.prog 152 #[.int .i64 23] w fun e w' => e = .returned (.func (.func 236) #[] #[]) ∧ w = w' := by
  go_enter Tryz.func152, Tryz.ntmps152
  go_wp2_with (go_at_call 201; refine (narrow_23 _).mono ?_; rintro e w' ⟨rfl, rfl⟩)
  go_ret
  exact ⟨rfl, rfl⟩
set_option maxHeartbeats 4000000 in
theorem alu_23 {a b : Int} (h : Ans 236 a b) : AluAns 23 a b := by
  obtain ⟨r, hr, T⟩ := h
  refine ⟨r, hr, fun w => ?_⟩
  have T0 := Lib.hid T
  clear T
  have hn := neq_fn
  go_enter Tryz.func129, Tryz.ntmps129
  go_wp2_with (first | (go_at_call 152; refine (oper_23 _).mono ?_; rintro e w' ⟨rfl, rfl⟩) | (go_at_call 236; refine (T0.out _).mono ?_; rintro e w1 ⟨rfl, hb⟩))
  go_ret
  exact ⟨rfl, hb⟩
theorem narrow_24 (w : World) : Calls Tryz.prog 201 #[.int .i64 24] w fun e w' => e = .returned (.func (.func 237) #[] #[]) ∧ w = w' := by
  go_enter Tryz.func201, Tryz.ntmps201
  go_wp2
  go_ret
  exact ⟨rfl, rfl⟩
set_option maxHeartbeats 4000000 in
theorem oper_24 (w : World) : Calls Tryz.prog 152 #[.int .i64 24] w fun e w' => e = .returned (.func (.func 237) #[] #[]) ∧ w = w' := by
  go_enter Tryz.func152, Tryz.ntmps152
  go_wp2_with (go_at_call 201; refine (narrow_24 _).mono ?_; rintro e w' ⟨rfl, rfl⟩)
  go_ret
  exact ⟨rfl, rfl⟩
set_option maxHeartbeats 4000000 in
theorem alu_24 {a b : Int} (h : Ans 237 a b) : AluAns 24 a b := by
  obtain ⟨r, hr, T⟩ := h
  refine ⟨r, hr, fun w => ?_⟩
  have T0 := Lib.hid T
  clear T
  have hn := neq_fn
  go_enter Tryz.func129, Tryz.ntmps129
  go_wp2_with (first | (go_at_call 152; refine (oper_24 _).mono ?_; rintro e w' ⟨rfl, rfl⟩) | (go_at_call 237; refine (T0.out _).mono ?_; rintro e w1 ⟨rfl, hb⟩))
  go_ret
  exact ⟨rfl, hb⟩
theorem narrow_25 (w : World) : Calls Tryz.prog 201 #[.int .i64 25] w fun e w' => e = .returned (.func (.func 238) #[] #[]) ∧ w = w' := by
  go_enter Tryz.func201, Tryz.ntmps201
  go_wp2
  go_ret
  exact ⟨rfl, rfl⟩
set_option maxHeartbeats 4000000 in
theorem oper_25 (w : World) : Calls Tryz.prog 152 #[.int .i64 25] w fun e w' => e = .returned (.func (.func 238) #[] #[]) ∧ w = w' := by
  go_enter Tryz.func152, Tryz.ntmps152
  go_wp2_with (go_at_call 201; refine (narrow_25 _).mono ?_; rintro e w' ⟨rfl, rfl⟩)
  go_ret
  exact ⟨rfl, rfl⟩
set_option maxHeartbeats 4000000 in
theorem alu_25 {a b : Int} (h : Ans 238 a b) : AluAns 25 a b := by
  obtain ⟨r, hr, T⟩ := h
  refine ⟨r, hr, fun w => ?_⟩
  have T0 := Lib.hid T
  clear T
  have hn := neq_fn
  go_enter Tryz.func129, Tryz.ntmps129
  go_wp2_with (first | (go_at_call 152; refine (oper_25 _).mono ?_; rintro e w' ⟨rfl, rfl⟩) | (go_at_call 238; refine (T0.out _).mono ?_; rintro e w1 ⟨rfl, hb⟩))
  go_ret
  exact ⟨rfl, hb⟩
theorem narrow_26 (w : World) : Calls Tryz.prog 201 #[.int .i64 26] w fun e w' => e = .returned (.func (.func 239) #[] #[]) ∧ w = w' := by
  go_enter Tryz.func201, Tryz.ntmps201
  go_wp2
  go_ret
  exact ⟨rfl, rfl⟩
set_option maxHeartbeats 4000000 in
theorem oper_26 (w : World) : Calls Tryz.prog 152 #[.int .i64 26] w fun e w' => e = .returned (.func (.func 239) #[] #[]) ∧ w = w' := by
  go_enter Tryz.func152, Tryz.ntmps152
  go_wp2_with (go_at_call 201; refine (narrow_26 _).mono ?_; rintro e w' ⟨rfl, rfl⟩)
  go_ret
  exact ⟨rfl, rfl⟩
set_option maxHeartbeats 4000000 in
theorem alu_26 {a b : Int} (h : Ans 239 a b) : AluAns 26 a b := by
  obtain ⟨r, hr, T⟩ := h
  refine ⟨r, hr, fun w => ?_⟩
  have T0 := Lib.hid T
  clear T
  have hn := neq_fn
  go_enter Tryz.func129, Tryz.ntmps129
  go_wp2_with (first | (go_at_call 152; refine (oper_26 _).mono ?_; rintro e w' ⟨rfl, rfl⟩) | (go_at_call 239; refine (T0.out _).mono ?_; rintro e w1 ⟨rfl, hb⟩))
  go_ret
  exact ⟨rfl, hb⟩
theorem narrow_27 (w : World) : Calls Tryz.prog 201 #[.int .i64 27] w fun e w' => e = .returned (.func (.func 240) #[] #[]) ∧ w = w' := by
  go_enter Tryz.func201, Tryz.ntmps201
  go_wp2
  go_ret
  exact ⟨rfl, rfl⟩
set_option maxHeartbeats 4000000 in
theorem oper_27 (w : World) : Calls Tryz.prog 152 #[.int .i64 27] w fun e w' => e = .returned (.func (.func 240) #[] #[]) ∧ w = w' := by
  go_enter Tryz.func152, Tryz.ntmps152
  go_wp2_with (go_at_call 201; refine (narrow_27 _).mono ?_; rintro e w' ⟨rfl, rfl⟩)
  go_ret
  exact ⟨rfl, rfl⟩
set_option maxHeartbeats 4000000 in
theorem alu_27 {a b : Int} (h : Ans 240 a b) : AluAns 27 a b := by
  obtain ⟨r, hr, T⟩ := h
  refine ⟨r, hr, fun w => ?_⟩
  have T0 := Lib.hid T
  clear T
  have hn := neq_fn
  go_enter Tryz.func129, Tryz.ntmps129
  go_wp2_with (first | (go_at_call 152; refine (oper_27 _).mono ?_; rintro e w' ⟨rfl, rfl⟩) | (go_at_call 240; refine (T0.out _).mono ?_; rintro e w1 ⟨rfl, hb⟩))
  go_ret
  exact ⟨rfl, hb⟩
theorem narrow_28 (w : World) : Calls Tryz.prog 201 #[.int .i64 28] w fun e w' => e = .returned (.func (.func 241) #[] #[]) ∧ w = w' := by
  go_enter Tryz.func201, Tryz.ntmps201
  go_wp2
  go_ret
  exact ⟨rfl, rfl⟩
set_option maxHeartbeats 4000000 in
theorem oper_28 (w : World) : Calls Tryz.prog 152 #[.int .i64 28] w fun e w' => e = .returned (.func (.func 241) #[] #[]) ∧ w = w' := by
  go_enter Tryz.func152, Tryz.ntmps152
  go_wp2_with (go_at_call 201; refine (narrow_28 _).mono ?_; rintro e w' ⟨rfl, rfl⟩)
  go_ret
  exact ⟨rfl, rfl⟩
set_option maxHeartbeats 4000000 in
theorem alu_28 {a b : Int} (h : Ans 241 a b) : AluAns 28 a b := by
  obtain ⟨r, hr, T⟩ := h
  refine ⟨r, hr, fun w => ?_⟩
  have T0 := Lib.hid T
  clear T
  have hn := neq_fn
  go_enter Tryz.func129, Tryz.ntmps129
  go_wp2_with (first | (go_at_call 152; refine (oper_28 _).mono ?_; rintro e w' ⟨rfl, rfl⟩) | (go_at_call 241; refine (T0.out _).mono ?_; rintro e w1 ⟨rfl, hb⟩))
  go_ret
  exact ⟨rfl, hb⟩
set_option maxHeartbeats 4000000 in
theorem narrow_none (n : Int) (h19 : (n == 19) = false) (h20 : (n == 20) = false) (h21 : (n == 21) = false) (h22 : (n == 22) = false) (h23 : (n == 23) = false) (h24 : (n == 24) = false) (h25 : (n == 25) = false) (h26 : (n == 26) = false) (h27 : (n == 27) = false) (h28 : (n == 28) = false) (w : World) : Calls Tryz.prog 201 #[.int .i64 n] w fun e w' => e = .returned .nilFunc ∧ w = w' := by
  go_enter Tryz.func201, Tryz.ntmps201
  go_wp2
  go_ret
  exact ⟨rfl, rfl⟩
set_option maxHeartbeats 4000000 in
theorem oper_none (n : Int) (h1 : (n == 1) = false) (h2 : (n == 2) = false) (h3 : (n == 3) = false) (h4 : (n == 4) = false) (h5 : (n == 5) = false) (h6 : (n == 6) = false) (h7 : (n == 7) = false) (h8 : (n == 8) = false) (h9 : (n == 9) = false) (h10 : (n == 10) = false) (h11 : (n == 11) = false) (h12 : (n == 12) = false) (h13 : (n == 13) = false) (h14 : (n == 14) = false) (h15 : (n == 15) = false) (h16 : (n == 16) = false) (h17 : (n == 17) = false) (h18 : (n == 18) = false) (h19 : (n == 19) = false) (h20 : (n == 20) = false) (h21 : (n == 21) = false) (h22 : (n == 22) = false) (h23 : (n == 23) = false) (h24 : (n == 24) = false) (h25 : (n == 25) = false) (h26 : (n == 26) = false) (h27 : (n == 27) = false) (h28 : (n == 28) = false) (w : World) : Calls Tryz.prog 152 #[.int .i64 n] w fun e w' => e = .returned .nilFunc ∧ w = w' := by
  have HN := fun w => Lib.hid (narrow_none n h19 h20 h21 h22 h23 h24 h25 h26 h27 h28 w)
  go_enter Tryz.func152, Tryz.ntmps152
  go_wp2_with (go_at_call 201; refine (HN _).out.mono ?_; rintro e w' ⟨rfl, rfl⟩)
  go_ret
  exact ⟨rfl, rfl⟩
set_option maxHeartbeats 4000000 in
theorem alu_none (n : Int) (h1 : (n == 1) = false) (h2 : (n == 2) = false) (h3 : (n == 3) = false) (h4 : (n == 4) = false) (h5 : (n == 5) = false) (h6 : (n == 6) = false) (h7 : (n == 7) = false) (h8 : (n == 8) = false) (h9 : (n == 9) = false) (h10 : (n == 10) = false) (h11 : (n == 11) = false) (h12 : (n == 12) = false) (h13 : (n == 13) = false) (h14 : (n == 14) = false) (h15 : (n == 15) = false) (h16 : (n == 16) = false) (h17 : (n == 17) = false) (h18 : (n == 18) = false) (h19 : (n == 19) = false) (h20 : (n == 20) = false) (h21 : (n == 21) = false) (h22 : (n == 22) = false) (h23 : (n == 23) = false) (h24 : (n == 24) = false) (h25 : (n == 25) = false) (h26 : (n == 26) = false) (h27 : (n == 27) = false) (h28 : (n == 28) = false) (a b : Int) : AluAns n a b := by
  refine ⟨0, ⟨by decide, by decide⟩, fun w => ?_⟩
  have HN := fun w => Lib.hid (oper_none n h1 h2 h3 h4 h5 h6 h7 h8 h9 h10 h11 h12 h13 h14 h15 h16 h17 h18 h19 h20 h21 h22 h23 h24 h25 h26 h27 h28 w)
  clear h1 h2 h3 h4 h5 h6 h7 h8 h9 h10 h11 h12 h13 h14 h15 h16 h17 h18 h19 h20 h21 h22 h23 h24 h25 h26 h27 h28
  have hn := neq_nil
  go_enter Tryz.func129, Tryz.ntmps129
  go_wp2_with (go_at_call 152; refine (HN _).out.mono ?_; rintro e w' ⟨rfl, rfl⟩)
  go_ret
  exact ⟨rfl, Below.refl _ _⟩
theorem alu_ex (n : Int) {a b : Int} (ha : U64 a) (hb : U64 b) : AluAns n a b := by
  by_cases h1 : n = 1
  · subst h1; exact alu_1 (ans_add ha hb)
  by_cases h2 : n = 2
  · subst h2; exact alu_2 (ans_sub ha hb)
  by_cases h3 : n = 3
  · subst h3; exact alu_3 (ans_sll ha hb)
  by_cases h4 : n = 4
  · subst h4; exact alu_4 (ans_slt ha hb)
  by_cases h5 : n = 5
  · subst h5; exact alu_5 (ans_sltu ha hb)
  by_cases h6 : n = 6
  · subst h6; exact alu_6 (ans_xor ha hb)
  by_cases h7 : n = 7
  · subst h7; exact alu_7 (ans_srl ha hb)
  by_cases h8 : n = 8
  · subst h8; exact alu_8 (ans_sra ha hb)
  by_cases h9 : n = 9
  · subst h9; exact alu_9 (ans_or ha hb)
  by_cases h10 : n = 10
  · subst h10; exact alu_10 (ans_and ha hb)
  by_cases h11 : n = 11
  · subst h11; exact alu_11 (ans_mul ha hb)
  by_cases h12 : n = 12
  · subst h12; exact alu_12 (ans_mulh ha hb)
  by_cases h13 : n = 13
  · subst h13; exact alu_13 (ans_mulhsu ha hb)
  by_cases h14 : n = 14
  · subst h14; exact alu_14 (ans_mulhu ha hb)
  by_cases h15 : n = 15
  · subst h15; exact alu_15 (ans_div ha hb)
  by_cases h16 : n = 16
  · subst h16; exact alu_16 (ans_divu ha hb)
  by_cases h17 : n = 17
  · subst h17; exact alu_17 (ans_rem ha hb)
  by_cases h18 : n = 18
  · subst h18; exact alu_18 (ans_remu ha hb)
  by_cases h19 : n = 19
  · subst h19; exact alu_19 (ans_addw ha hb)
  by_cases h20 : n = 20
  · subst h20; exact alu_20 (ans_subw ha hb)
  by_cases h21 : n = 21
  · subst h21; exact alu_21 (ans_sllw ha hb)
  by_cases h22 : n = 22
  · subst h22; exact alu_22 (ans_srlw ha hb)
  by_cases h23 : n = 23
  · subst h23; exact alu_23 (ans_sraw ha hb)
  by_cases h24 : n = 24
  · subst h24; exact alu_24 (ans_mulw ha hb)
  by_cases h25 : n = 25
  · subst h25; exact alu_25 (ans_divw ha hb)
  by_cases h26 : n = 26
  · subst h26; exact alu_26 (ans_divuw ha hb)
  by_cases h27 : n = 27
  · subst h27; exact alu_27 (ans_remw ha hb)
  by_cases h28 : n = 28
  · subst h28; exact alu_28 (ans_remuw ha hb)
  exact alu_none n (beq_eq_false_iff_ne.2 h1) (beq_eq_false_iff_ne.2 h2) (beq_eq_false_iff_ne.2 h3) (beq_eq_false_iff_ne.2 h4) (beq_eq_false_iff_ne.2 h5) (beq_eq_false_iff_ne.2 h6) (beq_eq_false_iff_ne.2 h7) (beq_eq_false_iff_ne.2 h8) (beq_eq_false_iff_ne.2 h9) (beq_eq_false_iff_ne.2 h10) (beq_eq_false_iff_ne.2 h11) (beq_eq_false_iff_ne.2 h12) (beq_eq_false_iff_ne.2 h13) (beq_eq_false_iff_ne.2 h14) (beq_eq_false_iff_ne.2 h15) (beq_eq_false_iff_ne.2 h16) (beq_eq_false_iff_ne.2 h17) (beq_eq_false_iff_ne.2 h18) (beq_eq_false_iff_ne.2 h19) (beq_eq_false_iff_ne.2 h20) (beq_eq_false_iff_ne.2 h21) (beq_eq_false_iff_ne.2 h22) (beq_eq_false_iff_ne.2 h23) (beq_eq_false_iff_ne.2 h24) (beq_eq_false_iff_ne.2 h25) (beq_eq_false_iff_ne.2 h26) (beq_eq_false_iff_ne.2 h27) (beq_eq_false_iff_ne.2 h28) a b
open Classical in
noncomputable def aluV (n a b : Int) : Int := if n = 1 then IntKind.u64.wrap (a + b) else if h : AluAns n a b then h.choose else 0
theorem add_at (a b : Int) (w : World) : Calls Tryz.prog 183 #[.agg #[.int .u64 a, .int .u64 b]] w fun e w' => e = .returned (.int .u64 (IntKind.u64.wrap (a + b))) ∧ Below w.heap.size w w' := by
  have ST := Lib.hid (Kn.nil (S := Step.Nil) (W := w))
  go_enter Tryz.func183, Tryz.ntmps183
  go_wp2_with (first
    | ((with_reducible refine Step.gate_box (t := 208) rfl ?_); refine Step.fresh (cs := #[.int .u64 a, .int .u64 b]) (T := 208) rfl ?hr ?_; (case hr => first | (go_simp; done) | (go_simp; rfl)); intro g1 w1 b hg hb; replace ST := Lib.hid (ST.out.made b hg hb); clear b hb; clear hg)
    | ((with_reducible refine Step.gate_load (t := 22) rfl ?_); refine Step.load ST.out.at0 rfl rfl rfl pl_u64 rfl ?_)
    | ((with_reducible refine Step.gate_load (t := 208) rfl ?_); refine Step.loadAll ST.out.at0 rfl rfl rfl Tryz.underlying208 rfl (size_pair _ _) ?_))
  go_ret
  exact ⟨rfl, ST.out.below⟩
set_option maxHeartbeats 4000000 in
theorem alu_add (a b : Int) (w : World) : Calls Tryz.prog 129 #[.int .i64 1, .int .u64 a, .int .u64 b] w fun e w' => e = .returned (.int .u64 (IntKind.u64.wrap (a + b))) ∧ Below w.heap.size w w' := by
  have hn := neq_fn
  go_enter Tryz.func129, Tryz.ntmps129
  go_wp2_with (first | (go_at_call 152; refine (oper_1 _).mono ?_; rintro e w' ⟨rfl, rfl⟩) | (go_at_call 183; refine (add_at _ _ _).mono ?_; rintro e w1 ⟨rfl, hb⟩))
  go_ret
  exact ⟨rfl, hb⟩
theorem alu_any (n : Int) {a b : Int} (ha : U64 a) (hb : U64 b) : U64 (aluV n a b) ∧ ∀ w, Calls Tryz.prog 129 #[.int .i64 n, .int .u64 a, .int .u64 b] w fun e w' => e = .returned (.int .u64 (aluV n a b)) ∧ Below w.heap.size w w' := by
  by_cases h1 : n = 1
  · subst h1
    have e : aluV 1 a b = IntKind.u64.wrap (a + b) := by unfold aluV; rw [if_pos rfl]
    rw [e]
    exact ⟨wrap_w _, alu_add a b⟩
  · have h := alu_ex n ha hb
    have e : aluV n a b = h.choose := by unfold aluV; rw [if_neg h1, dif_pos h]
    rw [e]
    exact h.choose_spec
end Go.Proofs.YthkodjkkcgdmfaaGreat.Hart
end
