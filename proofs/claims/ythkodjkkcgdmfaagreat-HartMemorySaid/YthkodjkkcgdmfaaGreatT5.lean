/- Parts of the walks and laws for the claim: Wd; no conditions beyond the theorems' own. -/
import Derived.Test.YthkodjkkcgdmfaaGreatT3
import Derived.Test.YthkodjkkcgdmfaaGreatT4
section
namespace Go.Proofs.YthkodjkkcgdmfaaGreat.Hart
open Go Go.RowKit Go.Proofs.YthkodjkkcgdmfaaGreat.Step Go.Proofs.YthkodjkkcgdmfaaGreat.Enc Go.Proofs.YthkodjkkcgdmfaaGreat.Kn
set_option linter.unusedVariables false
set_option linter.unusedSimpArgs false
set_option maxRecDepth 100000
theorem size_pair (a b : Int) : (Tryz.prog.info? 208).map (·.size) = some (#[.int .u64 a, .int .u64 b] : Array Value).size := (by kernel_rfl : (Tryz.prog.info? 208).map (·.size) = some 2)
theorem zero_pair : (Tryz.prog.info? 208).bind (·.zero) = some (.agg #[.int .u64 0, .int .u64 0]) := by kernel_rfl
/-- A function of two words answers a word, ever the same. -/
def Ans (f : FuncId) (a b : Int) : Prop := ∃ r, U64 r ∧ ∀ w, Calls Tryz.prog f #[.agg #[.int .u64 a, .int .u64 b]] w fun e w' => e = .returned (.int .u64 r) ∧ Below w.heap.size w w'
theorem Ans.at_ {f : FuncId} {a b : Int} (r : Int) (hr : U64 r) (h : ∀ w, Calls Tryz.prog f #[.agg #[.int .u64 a, .int .u64 b]] w fun e w' => e = .returned (.int .u64 r) ∧ Below w.heap.size w w') : Ans f a b := ⟨r, hr, h⟩
theorem bits_w (op : BinOp) {a b : Int} (h : ∃ v, bits op .u64 a b = IntKind.u64.wrap v) : U64 (bits op .u64 a b) := by obtain ⟨v, e⟩ := h; rw [e]; exact wrap_w v
theorem div_w {a : Int} (h : U64 a) (n : Nat) : U64 (a / 2 ^ n) := by
  have h := h.out
  have hp : (0 : Int) < 2 ^ n := Int.pow_pos (by decide)
  exact ⟨Int.ediv_nonneg h.1 (Int.le_of_lt hp), Int.lt_of_le_of_lt (Int.ediv_le_self _ h.1) h.2⟩
theorem quo_w {a b : Int} (ha : U64 a) (hb : U64 b) (c : ¬ b = 0) : U64 (a / b) := by
  have ha := ha.out
  have hb := hb.out
  exact ⟨Int.ediv_nonneg ha.1 hb.1, Int.lt_of_le_of_lt (Int.ediv_le_self _ ha.1) ha.2⟩
theorem rem_w {a b : Int} (ha : U64 a) (hb : U64 b) (c : ¬ b = 0) : U64 (a % b) := by
  have hb := hb.out
  have h1 := Int.emod_nonneg a c
  have h2 := Int.emod_lt_of_pos a (show 0 < b by omega)
  exact ⟨h1, by omega⟩
theorem xor_w (a b : Int) : U64 (bits .xor .u64 a b) := bits_w _ ⟨_, rfl⟩
theorem or_w (a b : Int) : U64 (bits .or .u64 a b) := bits_w _ ⟨_, rfl⟩
theorem and_w (a b : Int) : U64 (bits .and .u64 a b) := bits_w _ ⟨_, rfl⟩
set_option maxHeartbeats 2000000 in
theorem ans_add {a b : Int} (ha : U64 a) (hb : U64 b) : Ans 183 a b := by
  refine' Ans.at_ _ _ fun w => _
  rotate_left 2
  have ST := Lib.hid (Kn.nil (S := Step.Nil) (W := w))
  go_enter Tryz.func183, Tryz.ntmps183
  go_wp2_with (first
    | ((with_reducible refine Step.gate_box (t := 208) rfl ?_); refine Step.fresh (cs := #[.int .u64 a, .int .u64 b]) (T := 208) rfl ?hr ?_; (case hr => first | (go_simp; done) | (go_simp; rfl)); intro g1 w1 b hg hb; replace ST := Lib.hid (ST.out.made b hg hb); clear b hb; clear hg)
    | ((with_reducible refine Step.gate_load (t := 22) rfl ?_); refine Step.load ST.out.at0 rfl rfl rfl pl_u64 rfl ?_)
    | ((with_reducible refine Step.gate_load (t := 208) rfl ?_); refine Step.loadAll ST.out.at0 rfl rfl rfl Tryz.underlying208 rfl (size_pair _ _) ?_))
  go_ret
  refine ⟨?_, ST.out.below⟩
  first | rfl | (simp only [Act.put, Act.eval, Array.getD_eq_getD_getElem?, List.getElem?_toArray, List.getElem?_cons_zero, List.getElem?_cons_succ, Option.getD_some, List.setIfInBounds_toArray, List.set_cons_zero, List.set_cons_succ]; rfl)
  exact wrap_w _
set_option maxHeartbeats 2000000 in
theorem ans_sub {a b : Int} (ha : U64 a) (hb : U64 b) : Ans 184 a b := by
  refine' Ans.at_ _ _ fun w => _
  rotate_left 2
  have ST := Lib.hid (Kn.nil (S := Step.Nil) (W := w))
  go_enter Tryz.func184, Tryz.ntmps184
  go_wp2_with (first
    | ((with_reducible refine Step.gate_box (t := 208) rfl ?_); refine Step.fresh (cs := #[.int .u64 a, .int .u64 b]) (T := 208) rfl ?hr ?_; (case hr => first | (go_simp; done) | (go_simp; rfl)); intro g1 w1 b hg hb; replace ST := Lib.hid (ST.out.made b hg hb); clear b hb; clear hg)
    | ((with_reducible refine Step.gate_load (t := 22) rfl ?_); refine Step.load ST.out.at0 rfl rfl rfl pl_u64 rfl ?_)
    | ((with_reducible refine Step.gate_load (t := 208) rfl ?_); refine Step.loadAll ST.out.at0 rfl rfl rfl Tryz.underlying208 rfl (size_pair _ _) ?_))
  go_ret
  refine ⟨?_, ST.out.below⟩
  first | rfl | (simp only [Act.put, Act.eval, Array.getD_eq_getD_getElem?, List.getElem?_toArray, List.getElem?_cons_zero, List.getElem?_cons_succ, Option.getD_some, List.setIfInBounds_toArray, List.set_cons_zero, List.set_cons_succ]; rfl)
  exact wrap_w _
set_option maxHeartbeats 2000000 in
theorem ans_xor {a b : Int} (ha : U64 a) (hb : U64 b) : Ans 188 a b := by
  refine' Ans.at_ _ _ fun w => _
  rotate_left 2
  have ST := Lib.hid (Kn.nil (S := Step.Nil) (W := w))
  go_enter Tryz.func188, Tryz.ntmps188
  go_wp2_with (first
    | ((with_reducible refine Step.gate_box (t := 208) rfl ?_); refine Step.fresh (cs := #[.int .u64 a, .int .u64 b]) (T := 208) rfl ?hr ?_; (case hr => first | (go_simp; done) | (go_simp; rfl)); intro g1 w1 b hg hb; replace ST := Lib.hid (ST.out.made b hg hb); clear b hb; clear hg)
    | ((with_reducible refine Step.gate_load (t := 22) rfl ?_); refine Step.load ST.out.at0 rfl rfl rfl pl_u64 rfl ?_)
    | ((with_reducible refine Step.gate_load (t := 208) rfl ?_); refine Step.loadAll ST.out.at0 rfl rfl rfl Tryz.underlying208 rfl (size_pair _ _) ?_))
  go_ret
  refine ⟨?_, ST.out.below⟩
  first | rfl | (simp only [Act.put, Act.eval, Array.getD_eq_getD_getElem?, List.getElem?_toArray, List.getElem?_cons_zero, List.getElem?_cons_succ, Option.getD_some, List.setIfInBounds_toArray, List.set_cons_zero, List.set_cons_succ]; rfl)
  exact xor_w _ _
set_option maxHeartbeats 2000000 in
theorem ans_or {a b : Int} (ha : U64 a) (hb : U64 b) : Ans 191 a b := by
  refine' Ans.at_ _ _ fun w => _
  rotate_left 2
  have ST := Lib.hid (Kn.nil (S := Step.Nil) (W := w))
  go_enter Tryz.func191, Tryz.ntmps191
  go_wp2_with (first
    | ((with_reducible refine Step.gate_box (t := 208) rfl ?_); refine Step.fresh (cs := #[.int .u64 a, .int .u64 b]) (T := 208) rfl ?hr ?_; (case hr => first | (go_simp; done) | (go_simp; rfl)); intro g1 w1 b hg hb; replace ST := Lib.hid (ST.out.made b hg hb); clear b hb; clear hg)
    | ((with_reducible refine Step.gate_load (t := 22) rfl ?_); refine Step.load ST.out.at0 rfl rfl rfl pl_u64 rfl ?_)
    | ((with_reducible refine Step.gate_load (t := 208) rfl ?_); refine Step.loadAll ST.out.at0 rfl rfl rfl Tryz.underlying208 rfl (size_pair _ _) ?_))
  go_ret
  refine ⟨?_, ST.out.below⟩
  first | rfl | (simp only [Act.put, Act.eval, Array.getD_eq_getD_getElem?, List.getElem?_toArray, List.getElem?_cons_zero, List.getElem?_cons_succ, Option.getD_some, List.setIfInBounds_toArray, List.set_cons_zero, List.set_cons_succ]; rfl)
  exact or_w _ _
set_option maxHeartbeats 2000000 in
theorem ans_and {a b : Int} (ha : U64 a) (hb : U64 b) : Ans 192 a b := by
  refine' Ans.at_ _ _ fun w => _
  rotate_left 2
  have ST := Lib.hid (Kn.nil (S := Step.Nil) (W := w))
  go_enter Tryz.func192, Tryz.ntmps192
  go_wp2_with (first
    | ((with_reducible refine Step.gate_box (t := 208) rfl ?_); refine Step.fresh (cs := #[.int .u64 a, .int .u64 b]) (T := 208) rfl ?hr ?_; (case hr => first | (go_simp; done) | (go_simp; rfl)); intro g1 w1 b hg hb; replace ST := Lib.hid (ST.out.made b hg hb); clear b hb; clear hg)
    | ((with_reducible refine Step.gate_load (t := 22) rfl ?_); refine Step.load ST.out.at0 rfl rfl rfl pl_u64 rfl ?_)
    | ((with_reducible refine Step.gate_load (t := 208) rfl ?_); refine Step.loadAll ST.out.at0 rfl rfl rfl Tryz.underlying208 rfl (size_pair _ _) ?_))
  go_ret
  refine ⟨?_, ST.out.below⟩
  first | rfl | (simp only [Act.put, Act.eval, Array.getD_eq_getD_getElem?, List.getElem?_toArray, List.getElem?_cons_zero, List.getElem?_cons_succ, Option.getD_some, List.setIfInBounds_toArray, List.set_cons_zero, List.set_cons_succ]; rfl)
  exact and_w _ _
set_option maxHeartbeats 2000000 in
theorem ans_mul {a b : Int} (ha : U64 a) (hb : U64 b) : Ans 193 a b := by
  refine' Ans.at_ _ _ fun w => _
  rotate_left 2
  have ST := Lib.hid (Kn.nil (S := Step.Nil) (W := w))
  go_enter Tryz.func193, Tryz.ntmps193
  go_wp2_with (first
    | ((with_reducible refine Step.gate_box (t := 208) rfl ?_); refine Step.fresh (cs := #[.int .u64 a, .int .u64 b]) (T := 208) rfl ?hr ?_; (case hr => first | (go_simp; done) | (go_simp; rfl)); intro g1 w1 b hg hb; replace ST := Lib.hid (ST.out.made b hg hb); clear b hb; clear hg)
    | ((with_reducible refine Step.gate_load (t := 22) rfl ?_); refine Step.load ST.out.at0 rfl rfl rfl pl_u64 rfl ?_)
    | ((with_reducible refine Step.gate_load (t := 208) rfl ?_); refine Step.loadAll ST.out.at0 rfl rfl rfl Tryz.underlying208 rfl (size_pair _ _) ?_))
  go_ret
  refine ⟨?_, ST.out.below⟩
  first | rfl | (simp only [Act.put, Act.eval, Array.getD_eq_getD_getElem?, List.getElem?_toArray, List.getElem?_cons_zero, List.getElem?_cons_succ, Option.getD_some, List.setIfInBounds_toArray, List.set_cons_zero, List.set_cons_succ]; rfl)
  exact wrap_w _
set_option maxHeartbeats 2000000 in
theorem ans_sll {a b : Int} (ha : U64 a) (hb : U64 b) : Ans 185 a b := by
  have e1 : bits .and .u64 b 63 = b % 64 := u_mask 6 hb (by decide)
  have e2 : 0 ≤ b % 64 := by omega
  refine' Ans.at_ _ _ fun w => _
  rotate_left 2
  have ST := Lib.hid (Kn.nil (S := Step.Nil) (W := w))
  go_enter Tryz.func185, Tryz.ntmps185
  go_wp2_with (first
    | ((with_reducible refine Step.gate_box (t := 208) rfl ?_); refine Step.fresh (cs := #[.int .u64 a, .int .u64 b]) (T := 208) rfl ?hr ?_; (case hr => first | (go_simp; done) | (go_simp; rfl)); intro g1 w1 b hg hb; replace ST := Lib.hid (ST.out.made b hg hb); clear b hb; clear hg)
    | ((with_reducible refine Step.gate_load (t := 22) rfl ?_); refine Step.load ST.out.at0 rfl rfl rfl pl_u64 rfl ?_)
    | ((with_reducible refine Step.gate_load (t := 208) rfl ?_); refine Step.loadAll ST.out.at0 rfl rfl rfl Tryz.underlying208 rfl (size_pair _ _) ?_))
  go_ret
  refine ⟨?_, ST.out.below⟩
  first | rfl | (simp only [Act.put, Act.eval, Array.getD_eq_getD_getElem?, List.getElem?_toArray, List.getElem?_cons_zero, List.getElem?_cons_succ, Option.getD_some, List.setIfInBounds_toArray, List.set_cons_zero, List.set_cons_succ]; rfl)
  exact wrap_w _
set_option maxHeartbeats 2000000 in
theorem ans_srl {a b : Int} (ha : U64 a) (hb : U64 b) : Ans 189 a b := by
  have e1 : bits .and .u64 b 63 = b % 64 := u_mask 6 hb (by decide)
  have e2 : 0 ≤ b % 64 := by omega
  refine' Ans.at_ _ _ fun w => _
  rotate_left 2
  have ST := Lib.hid (Kn.nil (S := Step.Nil) (W := w))
  go_enter Tryz.func189, Tryz.ntmps189
  go_wp2_with (first
    | ((with_reducible refine Step.gate_box (t := 208) rfl ?_); refine Step.fresh (cs := #[.int .u64 a, .int .u64 b]) (T := 208) rfl ?hr ?_; (case hr => first | (go_simp; done) | (go_simp; rfl)); intro g1 w1 b hg hb; replace ST := Lib.hid (ST.out.made b hg hb); clear b hb; clear hg)
    | ((with_reducible refine Step.gate_load (t := 22) rfl ?_); refine Step.load ST.out.at0 rfl rfl rfl pl_u64 rfl ?_)
    | ((with_reducible refine Step.gate_load (t := 208) rfl ?_); refine Step.loadAll ST.out.at0 rfl rfl rfl Tryz.underlying208 rfl (size_pair _ _) ?_))
  go_ret
  refine ⟨?_, ST.out.below⟩
  first | rfl | (simp only [Act.put, Act.eval, Array.getD_eq_getD_getElem?, List.getElem?_toArray, List.getElem?_cons_zero, List.getElem?_cons_succ, Option.getD_some, List.setIfInBounds_toArray, List.set_cons_zero, List.set_cons_succ]; rfl)
  exact div_w ha _
set_option maxHeartbeats 2000000 in
theorem ans_sra {a b : Int} (ha : U64 a) (hb : U64 b) : Ans 190 a b := by
  have e1 : bits .and .u64 b 63 = b % 64 := u_mask 6 hb (by decide)
  have e2 : 0 ≤ b % 64 := by omega
  refine' Ans.at_ _ _ fun w => _
  rotate_left 2
  have ST := Lib.hid (Kn.nil (S := Step.Nil) (W := w))
  go_enter Tryz.func190, Tryz.ntmps190
  go_wp2_with (first
    | ((with_reducible refine Step.gate_box (t := 208) rfl ?_); refine Step.fresh (cs := #[.int .u64 a, .int .u64 b]) (T := 208) rfl ?hr ?_; (case hr => first | (go_simp; done) | (go_simp; rfl)); intro g1 w1 b hg hb; replace ST := Lib.hid (ST.out.made b hg hb); clear b hb; clear hg)
    | ((with_reducible refine Step.gate_load (t := 22) rfl ?_); refine Step.load ST.out.at0 rfl rfl rfl pl_u64 rfl ?_)
    | ((with_reducible refine Step.gate_load (t := 208) rfl ?_); refine Step.loadAll ST.out.at0 rfl rfl rfl Tryz.underlying208 rfl (size_pair _ _) ?_))
  go_ret
  refine ⟨?_, ST.out.below⟩
  first | rfl | (simp only [Act.put, Act.eval, Array.getD_eq_getD_getElem?, List.getElem?_toArray, List.getElem?_cons_zero, List.getElem?_cons_succ, Option.getD_some, List.setIfInBounds_toArray, List.set_cons_zero, List.set_cons_succ]; rfl)
  exact wrap_w _
theorem truth_t (w : World) : Calls Tryz.prog 230 #[.bool true] w fun e w' => e = .returned (.int .u64 1) ∧ Below w.heap.size w w' := by
  have HB := Lib.hid (Below.refl _ _ : Below w.heap.size w w)
  go_enter Tryz.func230, Tryz.ntmps230
  go_wp2
  go_ret
  exact ⟨rfl, HB.out⟩
theorem truth_f (w : World) : Calls Tryz.prog 230 #[.bool false] w fun e w' => e = .returned (.int .u64 0) ∧ Below w.heap.size w w' := by
  have HB := Lib.hid (Below.refl _ _ : Below w.heap.size w w)
  go_enter Tryz.func230, Tryz.ntmps230
  go_wp2
  go_ret
  exact ⟨rfl, HB.out⟩
/-- A half with its sign, as a word. -/
def extH (v : Int) : Int := IntKind.u64.wrap (wrap64 (wrap32 v))
theorem ext_half (v : Int) (w : World) : Calls Tryz.prog 154 #[.int .u32 v] w fun e w' => e = .returned (.int .u64 (extH v)) ∧ Below w.heap.size w w' := by
  have HB := Lib.hid (Below.refl _ _ : Below w.heap.size w w)
  go_enter Tryz.func154, Tryz.ntmps154
  go_wp2
  go_ret
  exact ⟨rfl, HB.out⟩
set_option maxHeartbeats 2000000 in
theorem ans_slt {a b : Int} (ha : U64 a) (hb : U64 b) : Ans 186 a b := by
  by_cases c : wrap64 a < wrap64 b
  · refine Ans.at_ (1) (⟨by decide, by decide⟩) fun w => ?_
    have ST := Lib.hid (Kn.nil (S := Step.Nil) (W := w))
    go_enter Tryz.func186, Tryz.ntmps186
    go_wp2_with (first
      | ((with_reducible refine Step.gate_box (t := 208) rfl ?_); refine Step.fresh (cs := #[.int .u64 a, .int .u64 b]) (T := 208) rfl ?hr ?_; (case hr => first | (go_simp; done) | (go_simp; rfl)); intro g1 w1 b hg hb; replace ST := Lib.hid (ST.out.made b hg hb); clear b hb; clear hg)
      | ((with_reducible refine Step.gate_load (t := 22) rfl ?_); refine Step.load ST.out.at0 rfl rfl rfl pl_u64 rfl ?_)
      | ((with_reducible refine Step.gate_load (t := 208) rfl ?_); refine Step.loadAll ST.out.at0 rfl rfl rfl Tryz.underlying208 rfl (size_pair _ _) ?_)
      | (go_at_call 230; (with_reducible refine (truth_t _).mono ?_); rintro e w' ⟨rfl, hb⟩; replace ST := Lib.hid (ST.out.call hb); clear hb)
      | (go_at_call 230; (with_reducible refine (truth_f _).mono ?_); rintro e w' ⟨rfl, hb⟩; replace ST := Lib.hid (ST.out.call hb); clear hb))
    go_ret
    exact ⟨rfl, ST.out.below⟩
  · refine Ans.at_ (0) (⟨by decide, by decide⟩) fun w => ?_
    have ST := Lib.hid (Kn.nil (S := Step.Nil) (W := w))
    go_enter Tryz.func186, Tryz.ntmps186
    go_wp2_with (first
      | ((with_reducible refine Step.gate_box (t := 208) rfl ?_); refine Step.fresh (cs := #[.int .u64 a, .int .u64 b]) (T := 208) rfl ?hr ?_; (case hr => first | (go_simp; done) | (go_simp; rfl)); intro g1 w1 b hg hb; replace ST := Lib.hid (ST.out.made b hg hb); clear b hb; clear hg)
      | ((with_reducible refine Step.gate_load (t := 22) rfl ?_); refine Step.load ST.out.at0 rfl rfl rfl pl_u64 rfl ?_)
      | ((with_reducible refine Step.gate_load (t := 208) rfl ?_); refine Step.loadAll ST.out.at0 rfl rfl rfl Tryz.underlying208 rfl (size_pair _ _) ?_)
      | (go_at_call 230; (with_reducible refine (truth_t _).mono ?_); rintro e w' ⟨rfl, hb⟩; replace ST := Lib.hid (ST.out.call hb); clear hb)
      | (go_at_call 230; (with_reducible refine (truth_f _).mono ?_); rintro e w' ⟨rfl, hb⟩; replace ST := Lib.hid (ST.out.call hb); clear hb))
    go_ret
    exact ⟨rfl, ST.out.below⟩
set_option maxHeartbeats 2000000 in
theorem ans_sltu {a b : Int} (ha : U64 a) (hb : U64 b) : Ans 187 a b := by
  by_cases c : a < b
  · refine Ans.at_ (1) (⟨by decide, by decide⟩) fun w => ?_
    have ST := Lib.hid (Kn.nil (S := Step.Nil) (W := w))
    go_enter Tryz.func187, Tryz.ntmps187
    go_wp2_with (first
      | ((with_reducible refine Step.gate_box (t := 208) rfl ?_); refine Step.fresh (cs := #[.int .u64 a, .int .u64 b]) (T := 208) rfl ?hr ?_; (case hr => first | (go_simp; done) | (go_simp; rfl)); intro g1 w1 b hg hb; replace ST := Lib.hid (ST.out.made b hg hb); clear b hb; clear hg)
      | ((with_reducible refine Step.gate_load (t := 22) rfl ?_); refine Step.load ST.out.at0 rfl rfl rfl pl_u64 rfl ?_)
      | ((with_reducible refine Step.gate_load (t := 208) rfl ?_); refine Step.loadAll ST.out.at0 rfl rfl rfl Tryz.underlying208 rfl (size_pair _ _) ?_)
      | (go_at_call 230; (with_reducible refine (truth_t _).mono ?_); rintro e w' ⟨rfl, hb⟩; replace ST := Lib.hid (ST.out.call hb); clear hb)
      | (go_at_call 230; (with_reducible refine (truth_f _).mono ?_); rintro e w' ⟨rfl, hb⟩; replace ST := Lib.hid (ST.out.call hb); clear hb))
    go_ret
    exact ⟨rfl, ST.out.below⟩
  · refine Ans.at_ (0) (⟨by decide, by decide⟩) fun w => ?_
    have ST := Lib.hid (Kn.nil (S := Step.Nil) (W := w))
    go_enter Tryz.func187, Tryz.ntmps187
    go_wp2_with (first
      | ((with_reducible refine Step.gate_box (t := 208) rfl ?_); refine Step.fresh (cs := #[.int .u64 a, .int .u64 b]) (T := 208) rfl ?hr ?_; (case hr => first | (go_simp; done) | (go_simp; rfl)); intro g1 w1 b hg hb; replace ST := Lib.hid (ST.out.made b hg hb); clear b hb; clear hg)
      | ((with_reducible refine Step.gate_load (t := 22) rfl ?_); refine Step.load ST.out.at0 rfl rfl rfl pl_u64 rfl ?_)
      | ((with_reducible refine Step.gate_load (t := 208) rfl ?_); refine Step.loadAll ST.out.at0 rfl rfl rfl Tryz.underlying208 rfl (size_pair _ _) ?_)
      | (go_at_call 230; (with_reducible refine (truth_t _).mono ?_); rintro e w' ⟨rfl, hb⟩; replace ST := Lib.hid (ST.out.call hb); clear hb)
      | (go_at_call 230; (with_reducible refine (truth_f _).mono ?_); rintro e w' ⟨rfl, hb⟩; replace ST := Lib.hid (ST.out.call hb); clear hb))
    go_ret
    exact ⟨rfl, ST.out.below⟩
set_option maxHeartbeats 2000000 in
theorem ans_addw {a b : Int} (ha : U64 a) (hb : U64 b) : Ans 232 a b := by
  refine' Ans.at_ _ _ fun w => _
  rotate_left 2
  have ST := Lib.hid (Kn.nil (S := Step.Nil) (W := w))
  go_enter Tryz.func232, Tryz.ntmps232
  go_wp2_with (first
    | ((with_reducible refine Step.gate_box (t := 208) rfl ?_); refine Step.fresh (cs := #[.int .u64 a, .int .u64 b]) (T := 208) rfl ?hr ?_; (case hr => first | (go_simp; done) | (go_simp; rfl)); intro g1 w1 b hg hb; replace ST := Lib.hid (ST.out.made b hg hb); clear b hb; clear hg)
    | ((with_reducible refine Step.gate_load (t := 22) rfl ?_); refine Step.load ST.out.at0 rfl rfl rfl pl_u64 rfl ?_)
    | ((with_reducible refine Step.gate_load (t := 208) rfl ?_); refine Step.loadAll ST.out.at0 rfl rfl rfl Tryz.underlying208 rfl (size_pair _ _) ?_)
    | (go_at_call 154; (with_reducible refine (ext_half _ _).mono ?_); rintro e w' ⟨rfl, hb⟩; replace ST := Lib.hid (ST.out.call hb); clear hb))
  go_ret
  refine ⟨?_, ST.out.below⟩
  first | rfl | (simp only [Act.put, Act.eval, Array.getD_eq_getD_getElem?, List.getElem?_toArray, List.getElem?_cons_zero, List.getElem?_cons_succ, Option.getD_some, List.setIfInBounds_toArray, List.set_cons_zero, List.set_cons_succ]; rfl)
  exact wrap_w _
set_option maxHeartbeats 2000000 in
theorem ans_subw {a b : Int} (ha : U64 a) (hb : U64 b) : Ans 233 a b := by
  refine' Ans.at_ _ _ fun w => _
  rotate_left 2
  have ST := Lib.hid (Kn.nil (S := Step.Nil) (W := w))
  go_enter Tryz.func233, Tryz.ntmps233
  go_wp2_with (first
    | ((with_reducible refine Step.gate_box (t := 208) rfl ?_); refine Step.fresh (cs := #[.int .u64 a, .int .u64 b]) (T := 208) rfl ?hr ?_; (case hr => first | (go_simp; done) | (go_simp; rfl)); intro g1 w1 b hg hb; replace ST := Lib.hid (ST.out.made b hg hb); clear b hb; clear hg)
    | ((with_reducible refine Step.gate_load (t := 22) rfl ?_); refine Step.load ST.out.at0 rfl rfl rfl pl_u64 rfl ?_)
    | ((with_reducible refine Step.gate_load (t := 208) rfl ?_); refine Step.loadAll ST.out.at0 rfl rfl rfl Tryz.underlying208 rfl (size_pair _ _) ?_)
    | (go_at_call 154; (with_reducible refine (ext_half _ _).mono ?_); rintro e w' ⟨rfl, hb⟩; replace ST := Lib.hid (ST.out.call hb); clear hb))
  go_ret
  refine ⟨?_, ST.out.below⟩
  first | rfl | (simp only [Act.put, Act.eval, Array.getD_eq_getD_getElem?, List.getElem?_toArray, List.getElem?_cons_zero, List.getElem?_cons_succ, Option.getD_some, List.setIfInBounds_toArray, List.set_cons_zero, List.set_cons_succ]; rfl)
  exact wrap_w _
set_option maxHeartbeats 2000000 in
theorem ans_mulw {a b : Int} (ha : U64 a) (hb : U64 b) : Ans 237 a b := by
  refine' Ans.at_ _ _ fun w => _
  rotate_left 2
  have ST := Lib.hid (Kn.nil (S := Step.Nil) (W := w))
  go_enter Tryz.func237, Tryz.ntmps237
  go_wp2_with (first
    | ((with_reducible refine Step.gate_box (t := 208) rfl ?_); refine Step.fresh (cs := #[.int .u64 a, .int .u64 b]) (T := 208) rfl ?hr ?_; (case hr => first | (go_simp; done) | (go_simp; rfl)); intro g1 w1 b hg hb; replace ST := Lib.hid (ST.out.made b hg hb); clear b hb; clear hg)
    | ((with_reducible refine Step.gate_load (t := 22) rfl ?_); refine Step.load ST.out.at0 rfl rfl rfl pl_u64 rfl ?_)
    | ((with_reducible refine Step.gate_load (t := 208) rfl ?_); refine Step.loadAll ST.out.at0 rfl rfl rfl Tryz.underlying208 rfl (size_pair _ _) ?_)
    | (go_at_call 154; (with_reducible refine (ext_half _ _).mono ?_); rintro e w' ⟨rfl, hb⟩; replace ST := Lib.hid (ST.out.call hb); clear hb))
  go_ret
  refine ⟨?_, ST.out.below⟩
  first | rfl | (simp only [Act.put, Act.eval, Array.getD_eq_getD_getElem?, List.getElem?_toArray, List.getElem?_cons_zero, List.getElem?_cons_succ, Option.getD_some, List.setIfInBounds_toArray, List.set_cons_zero, List.set_cons_succ]; rfl)
  exact wrap_w _
set_option maxHeartbeats 2000000 in
theorem ans_sllw {a b : Int} (ha : U64 a) (hb : U64 b) : Ans 234 a b := by
  have e1 : bits .and .u64 b 31 = b % 32 := u_mask 5 hb (by decide)
  have e2 : 0 ≤ b % 32 := by omega
  refine' Ans.at_ _ _ fun w => _
  rotate_left 2
  have ST := Lib.hid (Kn.nil (S := Step.Nil) (W := w))
  go_enter Tryz.func234, Tryz.ntmps234
  go_wp2_with (first
    | ((with_reducible refine Step.gate_box (t := 208) rfl ?_); refine Step.fresh (cs := #[.int .u64 a, .int .u64 b]) (T := 208) rfl ?hr ?_; (case hr => first | (go_simp; done) | (go_simp; rfl)); intro g1 w1 b hg hb; replace ST := Lib.hid (ST.out.made b hg hb); clear b hb; clear hg)
    | ((with_reducible refine Step.gate_load (t := 22) rfl ?_); refine Step.load ST.out.at0 rfl rfl rfl pl_u64 rfl ?_)
    | ((with_reducible refine Step.gate_load (t := 208) rfl ?_); refine Step.loadAll ST.out.at0 rfl rfl rfl Tryz.underlying208 rfl (size_pair _ _) ?_)
    | (go_at_call 154; (with_reducible refine (ext_half _ _).mono ?_); rintro e w' ⟨rfl, hb⟩; replace ST := Lib.hid (ST.out.call hb); clear hb))
  go_ret
  refine ⟨?_, ST.out.below⟩
  first | rfl | (simp only [Act.put, Act.eval, Array.getD_eq_getD_getElem?, List.getElem?_toArray, List.getElem?_cons_zero, List.getElem?_cons_succ, Option.getD_some, List.setIfInBounds_toArray, List.set_cons_zero, List.set_cons_succ]; rfl)
  exact wrap_w _
set_option maxHeartbeats 2000000 in
theorem ans_srlw {a b : Int} (ha : U64 a) (hb : U64 b) : Ans 235 a b := by
  have e1 : bits .and .u64 b 31 = b % 32 := u_mask 5 hb (by decide)
  have e2 : 0 ≤ b % 32 := by omega
  refine' Ans.at_ _ _ fun w => _
  rotate_left 2
  have ST := Lib.hid (Kn.nil (S := Step.Nil) (W := w))
  go_enter Tryz.func235, Tryz.ntmps235
  go_wp2_with (first
    | ((with_reducible refine Step.gate_box (t := 208) rfl ?_); refine Step.fresh (cs := #[.int .u64 a, .int .u64 b]) (T := 208) rfl ?hr ?_; (case hr => first | (go_simp; done) | (go_simp; rfl)); intro g1 w1 b hg hb; replace ST := Lib.hid (ST.out.made b hg hb); clear b hb; clear hg)
    | ((with_reducible refine Step.gate_load (t := 22) rfl ?_); refine Step.load ST.out.at0 rfl rfl rfl pl_u64 rfl ?_)
    | ((with_reducible refine Step.gate_load (t := 208) rfl ?_); refine Step.loadAll ST.out.at0 rfl rfl rfl Tryz.underlying208 rfl (size_pair _ _) ?_)
    | (go_at_call 154; (with_reducible refine (ext_half _ _).mono ?_); rintro e w' ⟨rfl, hb⟩; replace ST := Lib.hid (ST.out.call hb); clear hb))
  go_ret
  refine ⟨?_, ST.out.below⟩
  first | rfl | (simp only [Act.put, Act.eval, Array.getD_eq_getD_getElem?, List.getElem?_toArray, List.getElem?_cons_zero, List.getElem?_cons_succ, Option.getD_some, List.setIfInBounds_toArray, List.set_cons_zero, List.set_cons_succ]; rfl)
  exact wrap_w _
set_option maxHeartbeats 2000000 in
theorem ans_sraw {a b : Int} (ha : U64 a) (hb : U64 b) : Ans 236 a b := by
  have e1 : bits .and .u64 b 31 = b % 32 := u_mask 5 hb (by decide)
  have e2 : 0 ≤ b % 32 := by omega
  refine' Ans.at_ _ _ fun w => _
  rotate_left 2
  have ST := Lib.hid (Kn.nil (S := Step.Nil) (W := w))
  go_enter Tryz.func236, Tryz.ntmps236
  go_wp2_with (first
    | ((with_reducible refine Step.gate_box (t := 208) rfl ?_); refine Step.fresh (cs := #[.int .u64 a, .int .u64 b]) (T := 208) rfl ?hr ?_; (case hr => first | (go_simp; done) | (go_simp; rfl)); intro g1 w1 b hg hb; replace ST := Lib.hid (ST.out.made b hg hb); clear b hb; clear hg)
    | ((with_reducible refine Step.gate_load (t := 22) rfl ?_); refine Step.load ST.out.at0 rfl rfl rfl pl_u64 rfl ?_)
    | ((with_reducible refine Step.gate_load (t := 208) rfl ?_); refine Step.loadAll ST.out.at0 rfl rfl rfl Tryz.underlying208 rfl (size_pair _ _) ?_)
    | (go_at_call 154; (with_reducible refine (ext_half _ _).mono ?_); rintro e w' ⟨rfl, hb⟩; replace ST := Lib.hid (ST.out.call hb); clear hb))
  go_ret
  refine ⟨?_, ST.out.below⟩
  first | rfl | (simp only [Act.put, Act.eval, Array.getD_eq_getD_getElem?, List.getElem?_toArray, List.getElem?_cons_zero, List.getElem?_cons_succ, Option.getD_some, List.setIfInBounds_toArray, List.set_cons_zero, List.set_cons_succ]; rfl)
  exact wrap_w _
set_option maxHeartbeats 4000000 in
theorem mul64_ex (a b : Int) (ha : U64 a) (hb : U64 b) : ∃ h l, U64 h ∧ U64 l ∧ ∀ w, Calls Tryz.prog 231 #[.int .u64 a, .int .u64 b] w fun e w' => e = .returned (.tuple #[.int .u64 h, .int .u64 l]) ∧ Below w.heap.size w w' := by
  have e1 : bits .and .u64 a 4294967295 = a % 4294967296 := u_mask 32 ha (by decide)
  have e2 : bits .and .u64 b 4294967295 = b % 4294967296 := u_mask 32 hb (by decide)
  have ha := ha.out
  have hb := hb.out
  refine' ⟨_, _, _, _, fun w => _⟩
  rotate_left 4
  · have HB := Lib.hid (Below.refl _ _ : Below w.heap.size w w)
    go_enter Tryz.func231, Tryz.ntmps231
    go_wp2
    refine bodyPost_ret (results_tmp2 rfl _ _ _) rfl ?_
    refine ⟨?_, HB.out⟩
    simp only [Act.put, Act.eval, Array.getD_eq_getD_getElem?, List.getElem?_toArray, List.getElem?_cons_zero, List.getElem?_cons_succ, Option.getD_some, List.setIfInBounds_toArray, List.set_cons_zero, List.set_cons_succ]
    rfl
  · exact wrap_w _
  · exact wrap_w _
set_option maxHeartbeats 2000000 in
theorem ans_mulhu {a b : Int} (ha : U64 a) (hb : U64 b) : Ans 196 a b := by
  obtain ⟨h, l, hh, hl, T⟩ := mul64_ex a b ha hb
  have T0 := Lib.hid T
  clear T
  refine' Ans.at_ _ _ fun w => _
  rotate_left 2
  have ST := Lib.hid (Kn.nil (S := Step.Nil) (W := w))
  go_enter Tryz.func196, Tryz.ntmps196
  go_wp2_with (first
    | ((with_reducible refine Step.gate_box (t := 208) rfl ?_); refine Step.fresh (cs := #[.int .u64 a, .int .u64 b]) (T := 208) rfl ?hr ?_; (case hr => first | (go_simp; done) | (go_simp; rfl)); intro g1 w1 b hg hb; replace ST := Lib.hid (ST.out.made b hg hb); clear b hb; clear hg)
    | ((with_reducible refine Step.gate_load (t := 22) rfl ?_); refine Step.load ST.out.at0 rfl rfl rfl pl_u64 rfl ?_)
    | ((with_reducible refine Step.gate_load (t := 208) rfl ?_); refine Step.loadAll ST.out.at0 rfl rfl rfl Tryz.underlying208 rfl (size_pair _ _) ?_)
    | (go_at_call 231; (with_reducible refine (T0.out _).mono ?_); rintro e w' ⟨rfl, hb⟩; replace ST := Lib.hid (ST.out.call hb); clear hb))
  go_ret
  refine ⟨?_, ST.out.below⟩
  first | rfl | (simp only [Act.put, Act.eval, Array.getD_eq_getD_getElem?, List.getElem?_toArray, List.getElem?_cons_zero, List.getElem?_cons_succ, Option.getD_some, List.setIfInBounds_toArray, List.set_cons_zero, List.set_cons_succ]; rfl)
  exact hh
set_option maxHeartbeats 2000000 in
theorem ans_mulhsu {a b : Int} (ha : U64 a) (hb : U64 b) : Ans 195 a b := by
  by_cases c : wrap64 a < 0
  · obtain ⟨h, hh, T⟩ := ans_mulhu ha hb
    have T0 := Lib.hid T
    clear T
    refine Ans.at_ (IntKind.u64.wrap (h - b)) (by first | exact wrap_w _ | exact hh) fun w => ?_
    have ST := Lib.hid (Kn.nil (S := Step.Nil) (W := w))
    go_enter Tryz.func195, Tryz.ntmps195
    go_wp2_with (first
      | ((with_reducible refine Step.gate_box (t := 208) rfl ?_); refine Step.fresh (cs := #[.int .u64 a, .int .u64 b]) (T := 208) rfl ?hr ?_; (case hr => first | (go_simp; done) | (go_simp; rfl)); intro g1 w1 b hg hb; replace ST := Lib.hid (ST.out.made b hg hb); clear b hb; clear hg)
      | ((with_reducible refine Step.gate_load (t := 22) rfl ?_); refine Step.load ST.out.at0 rfl rfl rfl pl_u64 rfl ?_)
      | ((with_reducible refine Step.gate_load (t := 208) rfl ?_); refine Step.loadAll ST.out.at0 rfl rfl rfl Tryz.underlying208 rfl (size_pair _ _) ?_)
      | (go_at_call 196; (with_reducible refine (T0.out _).mono ?_); rintro e w' ⟨rfl, hb⟩; replace ST := Lib.hid (ST.out.call hb); clear hb)
      | ((with_reducible refine Sq.region (id := 2) (I := fun X => Kn _ _ X _) ?hm1 5 ST.out.drew ?hp1 ?hs1); (case hm1 => rfl); (case hp1 => kernel_rfl); intro ops K hops hK; clear hops; dsimp only [List.take]; (repeat (first | (refine Sq.seq_move rfl rfl ?_; simp only [Act.put, Act.eval, Array.getD_eq_getD_getElem?, List.getElem?_toArray, List.getElem?_cons_zero, List.getElem?_cons_succ, Option.getD_some, List.setIfInBounds_toArray, List.set_cons_zero, List.set_cons_succ]) | (refine Sq.seq_check rfl rfl rfl ?_; simp only [Act.put, Act.eval, Array.getD_eq_getD_getElem?, List.getElem?_toArray, List.getElem?_cons_zero, List.getElem?_cons_succ, Option.getD_some, List.setIfInBounds_toArray, List.set_cons_zero, List.set_cons_succ]) | (refine Sq.seq_row (t := 208) (fun X hX => hX.at0) (Sq.wanted_none rfl) rfl rfl (Sq.row_all _) Tryz.underlying208 rfl (size_pair _ _) ?_; simp only [Act.put, Act.eval, Array.getD_eq_getD_getElem?, List.getElem?_toArray, List.getElem?_cons_zero, List.getElem?_cons_succ, Option.getD_some, List.setIfInBounds_toArray, List.set_cons_zero, List.set_cons_succ]) | (refine Sq.seq_load (t := 22) (fun X hX => hX.at0) (Sq.wanted_none rfl) rfl rfl pl_u64 rfl ?_; simp only [Act.put, Act.eval, Array.getD_eq_getD_getElem?, List.getElem?_toArray, List.getElem?_cons_zero, List.getElem?_cons_succ, Option.getD_some, List.setIfInBounds_toArray, List.set_cons_zero, List.set_cons_succ]) | (refine Sq.seq_call 196 rfl (Sq.wanted_none rfl) (fun X => ?_) (fun X hX => (T0.out X).mono fun e w' h => ⟨h.1, hX.call h.2⟩) ?_; (focus (first | (go_simp; done) | (go_simp; rfl))); simp only [Act.put, Act.eval, Array.getD_eq_getD_getElem?, List.getElem?_toArray, List.getElem?_cons_zero, List.getElem?_cons_succ, Option.getD_some, List.setIfInBounds_toArray, List.set_cons_zero, List.set_cons_succ]) | (refine' Sq.seq_pure rfl (fun X => _) _; rotate_left; (first | (go_simp; done) | (go_simp; rfl)); simp only [Act.put, Act.eval, Array.getD_eq_getD_getElem?, List.getElem?_toArray, List.getElem?_cons_zero, List.getElem?_cons_succ, Option.getD_some, List.setIfInBounds_toArray, List.set_cons_zero, List.set_cons_succ]))); refine Sq.seq_nil ?_; refine hK.out _ fun w1 hk => ?_; clear hK; replace ST := Lib.hid hk; clear hk; dsimp only [List.drop]))
    go_ret
    exact ⟨rfl, ST.out.below⟩
  · obtain ⟨h, hh, T⟩ := ans_mulhu ha hb
    have T0 := Lib.hid T
    clear T
    refine Ans.at_ (h) (by first | exact wrap_w _ | exact hh) fun w => ?_
    have ST := Lib.hid (Kn.nil (S := Step.Nil) (W := w))
    go_enter Tryz.func195, Tryz.ntmps195
    go_wp2_with (first
      | ((with_reducible refine Step.gate_box (t := 208) rfl ?_); refine Step.fresh (cs := #[.int .u64 a, .int .u64 b]) (T := 208) rfl ?hr ?_; (case hr => first | (go_simp; done) | (go_simp; rfl)); intro g1 w1 b hg hb; replace ST := Lib.hid (ST.out.made b hg hb); clear b hb; clear hg)
      | ((with_reducible refine Step.gate_load (t := 22) rfl ?_); refine Step.load ST.out.at0 rfl rfl rfl pl_u64 rfl ?_)
      | ((with_reducible refine Step.gate_load (t := 208) rfl ?_); refine Step.loadAll ST.out.at0 rfl rfl rfl Tryz.underlying208 rfl (size_pair _ _) ?_)
      | (go_at_call 196; (with_reducible refine (T0.out _).mono ?_); rintro e w' ⟨rfl, hb⟩; replace ST := Lib.hid (ST.out.call hb); clear hb)
      | ((with_reducible refine Sq.region (id := 2) (I := fun X => Kn _ _ X _) ?hm1 5 ST.out.drew ?hp1 ?hs1); (case hm1 => rfl); (case hp1 => kernel_rfl); intro ops K hops hK; clear hops; dsimp only [List.take]; (repeat (first | (refine Sq.seq_move rfl rfl ?_; simp only [Act.put, Act.eval, Array.getD_eq_getD_getElem?, List.getElem?_toArray, List.getElem?_cons_zero, List.getElem?_cons_succ, Option.getD_some, List.setIfInBounds_toArray, List.set_cons_zero, List.set_cons_succ]) | (refine Sq.seq_check rfl rfl rfl ?_; simp only [Act.put, Act.eval, Array.getD_eq_getD_getElem?, List.getElem?_toArray, List.getElem?_cons_zero, List.getElem?_cons_succ, Option.getD_some, List.setIfInBounds_toArray, List.set_cons_zero, List.set_cons_succ]) | (refine Sq.seq_row (t := 208) (fun X hX => hX.at0) (Sq.wanted_none rfl) rfl rfl (Sq.row_all _) Tryz.underlying208 rfl (size_pair _ _) ?_; simp only [Act.put, Act.eval, Array.getD_eq_getD_getElem?, List.getElem?_toArray, List.getElem?_cons_zero, List.getElem?_cons_succ, Option.getD_some, List.setIfInBounds_toArray, List.set_cons_zero, List.set_cons_succ]) | (refine Sq.seq_load (t := 22) (fun X hX => hX.at0) (Sq.wanted_none rfl) rfl rfl pl_u64 rfl ?_; simp only [Act.put, Act.eval, Array.getD_eq_getD_getElem?, List.getElem?_toArray, List.getElem?_cons_zero, List.getElem?_cons_succ, Option.getD_some, List.setIfInBounds_toArray, List.set_cons_zero, List.set_cons_succ]) | (refine Sq.seq_call 196 rfl (Sq.wanted_none rfl) (fun X => ?_) (fun X hX => (T0.out X).mono fun e w' h => ⟨h.1, hX.call h.2⟩) ?_; (focus (first | (go_simp; done) | (go_simp; rfl))); simp only [Act.put, Act.eval, Array.getD_eq_getD_getElem?, List.getElem?_toArray, List.getElem?_cons_zero, List.getElem?_cons_succ, Option.getD_some, List.setIfInBounds_toArray, List.set_cons_zero, List.set_cons_succ]) | (refine' Sq.seq_pure rfl (fun X => _) _; rotate_left; (first | (go_simp; done) | (go_simp; rfl)); simp only [Act.put, Act.eval, Array.getD_eq_getD_getElem?, List.getElem?_toArray, List.getElem?_cons_zero, List.getElem?_cons_succ, Option.getD_some, List.setIfInBounds_toArray, List.set_cons_zero, List.set_cons_succ]))); refine Sq.seq_nil ?_; refine hK.out _ fun w1 hk => ?_; clear hK; replace ST := Lib.hid hk; clear hk; dsimp only [List.drop]))
    go_ret
    exact ⟨rfl, ST.out.below⟩
set_option maxHeartbeats 2000000 in
theorem ans_mulh {a b : Int} (ha : U64 a) (hb : U64 b) : Ans 194 a b := by
  by_cases c : wrap64 b < 0
  · obtain ⟨h, hh, T⟩ := ans_mulhsu ha hb
    have T0 := Lib.hid T
    clear T
    refine Ans.at_ (IntKind.u64.wrap (h - a)) (by first | exact wrap_w _ | exact hh) fun w => ?_
    have ST := Lib.hid (Kn.nil (S := Step.Nil) (W := w))
    go_enter Tryz.func194, Tryz.ntmps194
    go_wp2_with (first
      | ((with_reducible refine Step.gate_box (t := 208) rfl ?_); refine Step.fresh (cs := #[.int .u64 a, .int .u64 b]) (T := 208) rfl ?hr ?_; (case hr => first | (go_simp; done) | (go_simp; rfl)); intro g1 w1 b hg hb; replace ST := Lib.hid (ST.out.made b hg hb); clear b hb; clear hg)
      | ((with_reducible refine Step.gate_load (t := 22) rfl ?_); refine Step.load ST.out.at0 rfl rfl rfl pl_u64 rfl ?_)
      | ((with_reducible refine Step.gate_load (t := 208) rfl ?_); refine Step.loadAll ST.out.at0 rfl rfl rfl Tryz.underlying208 rfl (size_pair _ _) ?_)
      | (go_at_call 195; (with_reducible refine (T0.out _).mono ?_); rintro e w' ⟨rfl, hb⟩; replace ST := Lib.hid (ST.out.call hb); clear hb)
      | ((with_reducible refine Sq.region (id := 2) (I := fun X => Kn _ _ X _) ?hm2 5 ST.out.drew ?hp2 ?hs2); (case hm2 => rfl); (case hp2 => kernel_rfl); intro ops K hops hK; clear hops; dsimp only [List.take]; (repeat (first | (refine Sq.seq_move rfl rfl ?_; simp only [Act.put, Act.eval, Array.getD_eq_getD_getElem?, List.getElem?_toArray, List.getElem?_cons_zero, List.getElem?_cons_succ, Option.getD_some, List.setIfInBounds_toArray, List.set_cons_zero, List.set_cons_succ]) | (refine Sq.seq_check rfl rfl rfl ?_; simp only [Act.put, Act.eval, Array.getD_eq_getD_getElem?, List.getElem?_toArray, List.getElem?_cons_zero, List.getElem?_cons_succ, Option.getD_some, List.setIfInBounds_toArray, List.set_cons_zero, List.set_cons_succ]) | (refine Sq.seq_row (t := 208) (fun X hX => hX.at0) (Sq.wanted_none rfl) rfl rfl (Sq.row_all _) Tryz.underlying208 rfl (size_pair _ _) ?_; simp only [Act.put, Act.eval, Array.getD_eq_getD_getElem?, List.getElem?_toArray, List.getElem?_cons_zero, List.getElem?_cons_succ, Option.getD_some, List.setIfInBounds_toArray, List.set_cons_zero, List.set_cons_succ]) | (refine Sq.seq_load (t := 22) (fun X hX => hX.at0) (Sq.wanted_none rfl) rfl rfl pl_u64 rfl ?_; simp only [Act.put, Act.eval, Array.getD_eq_getD_getElem?, List.getElem?_toArray, List.getElem?_cons_zero, List.getElem?_cons_succ, Option.getD_some, List.setIfInBounds_toArray, List.set_cons_zero, List.set_cons_succ]) | (refine Sq.seq_call 195 rfl (Sq.wanted_none rfl) (fun X => ?_) (fun X hX => (T0.out X).mono fun e w' h => ⟨h.1, hX.call h.2⟩) ?_; (focus (first | (go_simp; done) | (go_simp; rfl))); simp only [Act.put, Act.eval, Array.getD_eq_getD_getElem?, List.getElem?_toArray, List.getElem?_cons_zero, List.getElem?_cons_succ, Option.getD_some, List.setIfInBounds_toArray, List.set_cons_zero, List.set_cons_succ]) | (refine' Sq.seq_pure rfl (fun X => _) _; rotate_left; (first | (go_simp; done) | (go_simp; rfl)); simp only [Act.put, Act.eval, Array.getD_eq_getD_getElem?, List.getElem?_toArray, List.getElem?_cons_zero, List.getElem?_cons_succ, Option.getD_some, List.setIfInBounds_toArray, List.set_cons_zero, List.set_cons_succ]))); refine Sq.seq_nil ?_; refine hK.out _ fun w1 hk => ?_; clear hK; replace ST := Lib.hid hk; clear hk; dsimp only [List.drop]))
    go_ret
    exact ⟨rfl, ST.out.below⟩
  · obtain ⟨h, hh, T⟩ := ans_mulhsu ha hb
    have T0 := Lib.hid T
    clear T
    refine Ans.at_ (h) (by first | exact wrap_w _ | exact hh) fun w => ?_
    have ST := Lib.hid (Kn.nil (S := Step.Nil) (W := w))
    go_enter Tryz.func194, Tryz.ntmps194
    go_wp2_with (first
      | ((with_reducible refine Step.gate_box (t := 208) rfl ?_); refine Step.fresh (cs := #[.int .u64 a, .int .u64 b]) (T := 208) rfl ?hr ?_; (case hr => first | (go_simp; done) | (go_simp; rfl)); intro g1 w1 b hg hb; replace ST := Lib.hid (ST.out.made b hg hb); clear b hb; clear hg)
      | ((with_reducible refine Step.gate_load (t := 22) rfl ?_); refine Step.load ST.out.at0 rfl rfl rfl pl_u64 rfl ?_)
      | ((with_reducible refine Step.gate_load (t := 208) rfl ?_); refine Step.loadAll ST.out.at0 rfl rfl rfl Tryz.underlying208 rfl (size_pair _ _) ?_)
      | (go_at_call 195; (with_reducible refine (T0.out _).mono ?_); rintro e w' ⟨rfl, hb⟩; replace ST := Lib.hid (ST.out.call hb); clear hb)
      | ((with_reducible refine Sq.region (id := 2) (I := fun X => Kn _ _ X _) ?hm2 5 ST.out.drew ?hp2 ?hs2); (case hm2 => rfl); (case hp2 => kernel_rfl); intro ops K hops hK; clear hops; dsimp only [List.take]; (repeat (first | (refine Sq.seq_move rfl rfl ?_; simp only [Act.put, Act.eval, Array.getD_eq_getD_getElem?, List.getElem?_toArray, List.getElem?_cons_zero, List.getElem?_cons_succ, Option.getD_some, List.setIfInBounds_toArray, List.set_cons_zero, List.set_cons_succ]) | (refine Sq.seq_check rfl rfl rfl ?_; simp only [Act.put, Act.eval, Array.getD_eq_getD_getElem?, List.getElem?_toArray, List.getElem?_cons_zero, List.getElem?_cons_succ, Option.getD_some, List.setIfInBounds_toArray, List.set_cons_zero, List.set_cons_succ]) | (refine Sq.seq_row (t := 208) (fun X hX => hX.at0) (Sq.wanted_none rfl) rfl rfl (Sq.row_all _) Tryz.underlying208 rfl (size_pair _ _) ?_; simp only [Act.put, Act.eval, Array.getD_eq_getD_getElem?, List.getElem?_toArray, List.getElem?_cons_zero, List.getElem?_cons_succ, Option.getD_some, List.setIfInBounds_toArray, List.set_cons_zero, List.set_cons_succ]) | (refine Sq.seq_load (t := 22) (fun X hX => hX.at0) (Sq.wanted_none rfl) rfl rfl pl_u64 rfl ?_; simp only [Act.put, Act.eval, Array.getD_eq_getD_getElem?, List.getElem?_toArray, List.getElem?_cons_zero, List.getElem?_cons_succ, Option.getD_some, List.setIfInBounds_toArray, List.set_cons_zero, List.set_cons_succ]) | (refine Sq.seq_call 195 rfl (Sq.wanted_none rfl) (fun X => ?_) (fun X hX => (T0.out X).mono fun e w' h => ⟨h.1, hX.call h.2⟩) ?_; (focus (first | (go_simp; done) | (go_simp; rfl))); simp only [Act.put, Act.eval, Array.getD_eq_getD_getElem?, List.getElem?_toArray, List.getElem?_cons_zero, List.getElem?_cons_succ, Option.getD_some, List.setIfInBounds_toArray, List.set_cons_zero, List.set_cons_succ]) | (refine' Sq.seq_pure rfl (fun X => _) _; rotate_left; (first | (go_simp; done) | (go_simp; rfl)); simp only [Act.put, Act.eval, Array.getD_eq_getD_getElem?, List.getElem?_toArray, List.getElem?_cons_zero, List.getElem?_cons_succ, Option.getD_some, List.setIfInBounds_toArray, List.set_cons_zero, List.set_cons_succ]))); refine Sq.seq_nil ?_; refine hK.out _ fun w1 hk => ?_; clear hK; replace ST := Lib.hid hk; clear hk; dsimp only [List.drop]))
    go_ret
    exact ⟨rfl, ST.out.below⟩
set_option maxHeartbeats 2000000 in
theorem ans_div {a b : Int} (ha : U64 a) (hb : U64 b) : Ans 197 a b := by
  by_cases c : b = 0
  · have c3 : (b == 0) = true := beq_iff_eq.2 c
    refine' Ans.at_ _ _ fun w => _
    rotate_left 2
    have ST := Lib.hid (Kn.nil (S := Step.Nil) (W := w))
    go_enter Tryz.func197, Tryz.ntmps197
    go_wp2_with (first
      | ((with_reducible refine Step.gate_box (t := 208) rfl ?_); refine Step.fresh (cs := #[.int .u64 a, .int .u64 b]) (T := 208) rfl ?hr ?_; (case hr => first | (go_simp; done) | (go_simp; rfl)); intro g1 w1 b hg hb; replace ST := Lib.hid (ST.out.made b hg hb); clear b hb; clear hg)
      | ((with_reducible refine Step.gate_load (t := 22) rfl ?_); refine Step.load ST.out.at0 rfl rfl rfl pl_u64 rfl ?_)
      | ((with_reducible refine Step.gate_load (t := 208) rfl ?_); refine Step.loadAll ST.out.at0 rfl rfl rfl Tryz.underlying208 rfl (size_pair _ _) ?_))
    go_ret
    refine ⟨?_, ST.out.below⟩
    first | rfl | (simp only [Act.put, Act.eval, Array.getD_eq_getD_getElem?, List.getElem?_toArray, List.getElem?_cons_zero, List.getElem?_cons_succ, Option.getD_some, List.setIfInBounds_toArray, List.set_cons_zero, List.set_cons_succ]; rfl)
    first | exact wrap_w _ | exact ha | exact ⟨by decide, by decide⟩
  · by_cases c2 : wrap64 b = -1
    · have c3 : (b == 0) = false := beq_eq_false_iff_ne.2 c
      refine' Ans.at_ _ _ fun w => _
      rotate_left 2
      have ST := Lib.hid (Kn.nil (S := Step.Nil) (W := w))
      go_enter Tryz.func197, Tryz.ntmps197
      go_wp2_with (first
        | ((with_reducible refine Step.gate_box (t := 208) rfl ?_); refine Step.fresh (cs := #[.int .u64 a, .int .u64 b]) (T := 208) rfl ?hr ?_; (case hr => first | (go_simp; done) | (go_simp; rfl)); intro g1 w1 b hg hb; replace ST := Lib.hid (ST.out.made b hg hb); clear b hb; clear hg)
        | ((with_reducible refine Step.gate_load (t := 22) rfl ?_); refine Step.load ST.out.at0 rfl rfl rfl pl_u64 rfl ?_)
        | ((with_reducible refine Step.gate_load (t := 208) rfl ?_); refine Step.loadAll ST.out.at0 rfl rfl rfl Tryz.underlying208 rfl (size_pair _ _) ?_))
      go_ret
      refine ⟨?_, ST.out.below⟩
      first | rfl | (simp only [Act.put, Act.eval, Array.getD_eq_getD_getElem?, List.getElem?_toArray, List.getElem?_cons_zero, List.getElem?_cons_succ, Option.getD_some, List.setIfInBounds_toArray, List.set_cons_zero, List.set_cons_succ]; rfl)
      first | exact wrap_w _ | exact ha | exact ⟨by decide, by decide⟩
    · have c3 : (b == 0) = false := beq_eq_false_iff_ne.2 c
      have c4 : (wrap64 b == -1) = false := beq_eq_false_iff_ne.2 c2
      have c5 : ¬ wrap64 b = 0 := fun h => c (by have := hb.out; unfold wrap64 at h; omega)
      refine' Ans.at_ _ _ fun w => _
      rotate_left 2
      have ST := Lib.hid (Kn.nil (S := Step.Nil) (W := w))
      go_enter Tryz.func197, Tryz.ntmps197
      go_wp2_with (first
        | ((with_reducible refine Step.gate_box (t := 208) rfl ?_); refine Step.fresh (cs := #[.int .u64 a, .int .u64 b]) (T := 208) rfl ?hr ?_; (case hr => first | (go_simp; done) | (go_simp; rfl)); intro g1 w1 b hg hb; replace ST := Lib.hid (ST.out.made b hg hb); clear b hb; clear hg)
        | ((with_reducible refine Step.gate_load (t := 22) rfl ?_); refine Step.load ST.out.at0 rfl rfl rfl pl_u64 rfl ?_)
        | ((with_reducible refine Step.gate_load (t := 208) rfl ?_); refine Step.loadAll ST.out.at0 rfl rfl rfl Tryz.underlying208 rfl (size_pair _ _) ?_))
      go_ret
      refine ⟨?_, ST.out.below⟩
      first | rfl | (simp only [Act.put, Act.eval, Array.getD_eq_getD_getElem?, List.getElem?_toArray, List.getElem?_cons_zero, List.getElem?_cons_succ, Option.getD_some, List.setIfInBounds_toArray, List.set_cons_zero, List.set_cons_succ]; rfl)
      first | exact wrap_w _ | exact ha | exact ⟨by decide, by decide⟩
set_option maxHeartbeats 2000000 in
theorem ans_rem {a b : Int} (ha : U64 a) (hb : U64 b) : Ans 199 a b := by
  by_cases c : b = 0
  · have c3 : (b == 0) = true := beq_iff_eq.2 c
    refine' Ans.at_ _ _ fun w => _
    rotate_left 2
    have ST := Lib.hid (Kn.nil (S := Step.Nil) (W := w))
    go_enter Tryz.func199, Tryz.ntmps199
    go_wp2_with (first
      | ((with_reducible refine Step.gate_box (t := 208) rfl ?_); refine Step.fresh (cs := #[.int .u64 a, .int .u64 b]) (T := 208) rfl ?hr ?_; (case hr => first | (go_simp; done) | (go_simp; rfl)); intro g1 w1 b hg hb; replace ST := Lib.hid (ST.out.made b hg hb); clear b hb; clear hg)
      | ((with_reducible refine Step.gate_load (t := 22) rfl ?_); refine Step.load ST.out.at0 rfl rfl rfl pl_u64 rfl ?_)
      | ((with_reducible refine Step.gate_load (t := 208) rfl ?_); refine Step.loadAll ST.out.at0 rfl rfl rfl Tryz.underlying208 rfl (size_pair _ _) ?_))
    go_ret
    refine ⟨?_, ST.out.below⟩
    first | rfl | (simp only [Act.put, Act.eval, Array.getD_eq_getD_getElem?, List.getElem?_toArray, List.getElem?_cons_zero, List.getElem?_cons_succ, Option.getD_some, List.setIfInBounds_toArray, List.set_cons_zero, List.set_cons_succ]; rfl)
    first | exact wrap_w _ | exact ha | exact ⟨by decide, by decide⟩
  · by_cases c2 : wrap64 b = -1
    · have c3 : (b == 0) = false := beq_eq_false_iff_ne.2 c
      refine' Ans.at_ _ _ fun w => _
      rotate_left 2
      have ST := Lib.hid (Kn.nil (S := Step.Nil) (W := w))
      go_enter Tryz.func199, Tryz.ntmps199
      go_wp2_with (first
        | ((with_reducible refine Step.gate_box (t := 208) rfl ?_); refine Step.fresh (cs := #[.int .u64 a, .int .u64 b]) (T := 208) rfl ?hr ?_; (case hr => first | (go_simp; done) | (go_simp; rfl)); intro g1 w1 b hg hb; replace ST := Lib.hid (ST.out.made b hg hb); clear b hb; clear hg)
        | ((with_reducible refine Step.gate_load (t := 22) rfl ?_); refine Step.load ST.out.at0 rfl rfl rfl pl_u64 rfl ?_)
        | ((with_reducible refine Step.gate_load (t := 208) rfl ?_); refine Step.loadAll ST.out.at0 rfl rfl rfl Tryz.underlying208 rfl (size_pair _ _) ?_))
      go_ret
      refine ⟨?_, ST.out.below⟩
      first | rfl | (simp only [Act.put, Act.eval, Array.getD_eq_getD_getElem?, List.getElem?_toArray, List.getElem?_cons_zero, List.getElem?_cons_succ, Option.getD_some, List.setIfInBounds_toArray, List.set_cons_zero, List.set_cons_succ]; rfl)
      first | exact wrap_w _ | exact ha | exact ⟨by decide, by decide⟩
    · have c3 : (b == 0) = false := beq_eq_false_iff_ne.2 c
      have c4 : (wrap64 b == -1) = false := beq_eq_false_iff_ne.2 c2
      have c5 : ¬ wrap64 b = 0 := fun h => c (by have := hb.out; unfold wrap64 at h; omega)
      refine' Ans.at_ _ _ fun w => _
      rotate_left 2
      have ST := Lib.hid (Kn.nil (S := Step.Nil) (W := w))
      go_enter Tryz.func199, Tryz.ntmps199
      go_wp2_with (first
        | ((with_reducible refine Step.gate_box (t := 208) rfl ?_); refine Step.fresh (cs := #[.int .u64 a, .int .u64 b]) (T := 208) rfl ?hr ?_; (case hr => first | (go_simp; done) | (go_simp; rfl)); intro g1 w1 b hg hb; replace ST := Lib.hid (ST.out.made b hg hb); clear b hb; clear hg)
        | ((with_reducible refine Step.gate_load (t := 22) rfl ?_); refine Step.load ST.out.at0 rfl rfl rfl pl_u64 rfl ?_)
        | ((with_reducible refine Step.gate_load (t := 208) rfl ?_); refine Step.loadAll ST.out.at0 rfl rfl rfl Tryz.underlying208 rfl (size_pair _ _) ?_))
      go_ret
      refine ⟨?_, ST.out.below⟩
      first | rfl | (simp only [Act.put, Act.eval, Array.getD_eq_getD_getElem?, List.getElem?_toArray, List.getElem?_cons_zero, List.getElem?_cons_succ, Option.getD_some, List.setIfInBounds_toArray, List.set_cons_zero, List.set_cons_succ]; rfl)
      first | exact wrap_w _ | exact ha | exact ⟨by decide, by decide⟩
set_option maxHeartbeats 2000000 in
theorem ans_divu {a b : Int} (ha : U64 a) (hb : U64 b) : Ans 198 a b := by
  by_cases c : b = 0
  · have hb1 := hb.out
    have ha1 := ha.out
    have c3 : (b == 0) = true := beq_iff_eq.2 c
    refine' Ans.at_ _ _ fun w => _
    rotate_left 2
    have ST := Lib.hid (Kn.nil (S := Step.Nil) (W := w))
    go_enter Tryz.func198, Tryz.ntmps198
    go_wp2_with (first
      | ((with_reducible refine Step.gate_box (t := 208) rfl ?_); refine Step.fresh (cs := #[.int .u64 a, .int .u64 b]) (T := 208) rfl ?hr ?_; (case hr => first | (go_simp; done) | (go_simp; rfl)); intro g1 w1 b hg hb; replace ST := Lib.hid (ST.out.made b hg hb); clear b hb; clear hg)
      | ((with_reducible refine Step.gate_load (t := 22) rfl ?_); refine Step.load ST.out.at0 rfl rfl rfl pl_u64 rfl ?_)
      | ((with_reducible refine Step.gate_load (t := 208) rfl ?_); refine Step.loadAll ST.out.at0 rfl rfl rfl Tryz.underlying208 rfl (size_pair _ _) ?_))
    go_ret
    refine ⟨?_, ST.out.below⟩
    first | rfl | (simp only [Act.put, Act.eval, Array.getD_eq_getD_getElem?, List.getElem?_toArray, List.getElem?_cons_zero, List.getElem?_cons_succ, Option.getD_some, List.setIfInBounds_toArray, List.set_cons_zero, List.set_cons_succ]; rfl)
    first | exact ha | exact ⟨by decide, by decide⟩ | exact quo_w ha hb c | exact rem_w ha hb c
  · have hb1 := hb.out
    have ha1 := ha.out
    have c3 : (b == 0) = false := beq_eq_false_iff_ne.2 c
    refine' Ans.at_ _ _ fun w => _
    rotate_left 2
    have ST := Lib.hid (Kn.nil (S := Step.Nil) (W := w))
    go_enter Tryz.func198, Tryz.ntmps198
    go_wp2_with (first
      | ((with_reducible refine Step.gate_box (t := 208) rfl ?_); refine Step.fresh (cs := #[.int .u64 a, .int .u64 b]) (T := 208) rfl ?hr ?_; (case hr => first | (go_simp; done) | (go_simp; rfl)); intro g1 w1 b hg hb; replace ST := Lib.hid (ST.out.made b hg hb); clear b hb; clear hg)
      | ((with_reducible refine Step.gate_load (t := 22) rfl ?_); refine Step.load ST.out.at0 rfl rfl rfl pl_u64 rfl ?_)
      | ((with_reducible refine Step.gate_load (t := 208) rfl ?_); refine Step.loadAll ST.out.at0 rfl rfl rfl Tryz.underlying208 rfl (size_pair _ _) ?_))
    go_ret
    refine ⟨?_, ST.out.below⟩
    first | rfl | (simp only [Act.put, Act.eval, Array.getD_eq_getD_getElem?, List.getElem?_toArray, List.getElem?_cons_zero, List.getElem?_cons_succ, Option.getD_some, List.setIfInBounds_toArray, List.set_cons_zero, List.set_cons_succ]; rfl)
    first | exact ha | exact ⟨by decide, by decide⟩ | exact quo_w ha hb c | exact rem_w ha hb c
set_option maxHeartbeats 2000000 in
theorem ans_remu {a b : Int} (ha : U64 a) (hb : U64 b) : Ans 200 a b := by
  by_cases c : b = 0
  · have hb1 := hb.out
    have ha1 := ha.out
    have c3 : (b == 0) = true := beq_iff_eq.2 c
    refine' Ans.at_ _ _ fun w => _
    rotate_left 2
    have ST := Lib.hid (Kn.nil (S := Step.Nil) (W := w))
    go_enter Tryz.func200, Tryz.ntmps200
    go_wp2_with (first
      | ((with_reducible refine Step.gate_box (t := 208) rfl ?_); refine Step.fresh (cs := #[.int .u64 a, .int .u64 b]) (T := 208) rfl ?hr ?_; (case hr => first | (go_simp; done) | (go_simp; rfl)); intro g1 w1 b hg hb; replace ST := Lib.hid (ST.out.made b hg hb); clear b hb; clear hg)
      | ((with_reducible refine Step.gate_load (t := 22) rfl ?_); refine Step.load ST.out.at0 rfl rfl rfl pl_u64 rfl ?_)
      | ((with_reducible refine Step.gate_load (t := 208) rfl ?_); refine Step.loadAll ST.out.at0 rfl rfl rfl Tryz.underlying208 rfl (size_pair _ _) ?_))
    go_ret
    refine ⟨?_, ST.out.below⟩
    first | rfl | (simp only [Act.put, Act.eval, Array.getD_eq_getD_getElem?, List.getElem?_toArray, List.getElem?_cons_zero, List.getElem?_cons_succ, Option.getD_some, List.setIfInBounds_toArray, List.set_cons_zero, List.set_cons_succ]; rfl)
    first | exact ha | exact ⟨by decide, by decide⟩ | exact quo_w ha hb c | exact rem_w ha hb c
  · have hb1 := hb.out
    have ha1 := ha.out
    have c3 : (b == 0) = false := beq_eq_false_iff_ne.2 c
    refine' Ans.at_ _ _ fun w => _
    rotate_left 2
    have ST := Lib.hid (Kn.nil (S := Step.Nil) (W := w))
    go_enter Tryz.func200, Tryz.ntmps200
    go_wp2_with (first
      | ((with_reducible refine Step.gate_box (t := 208) rfl ?_); refine Step.fresh (cs := #[.int .u64 a, .int .u64 b]) (T := 208) rfl ?hr ?_; (case hr => first | (go_simp; done) | (go_simp; rfl)); intro g1 w1 b hg hb; replace ST := Lib.hid (ST.out.made b hg hb); clear b hb; clear hg)
      | ((with_reducible refine Step.gate_load (t := 22) rfl ?_); refine Step.load ST.out.at0 rfl rfl rfl pl_u64 rfl ?_)
      | ((with_reducible refine Step.gate_load (t := 208) rfl ?_); refine Step.loadAll ST.out.at0 rfl rfl rfl Tryz.underlying208 rfl (size_pair _ _) ?_))
    go_ret
    refine ⟨?_, ST.out.below⟩
    first | rfl | (simp only [Act.put, Act.eval, Array.getD_eq_getD_getElem?, List.getElem?_toArray, List.getElem?_cons_zero, List.getElem?_cons_succ, Option.getD_some, List.setIfInBounds_toArray, List.set_cons_zero, List.set_cons_succ]; rfl)
    first | exact ha | exact ⟨by decide, by decide⟩ | exact quo_w ha hb c | exact rem_w ha hb c
set_option maxHeartbeats 2000000 in
theorem low_any (a b : Int) (w : World) : Calls Tryz.prog 246 #[.agg #[.int .u64 a, .int .u64 b]] w fun e w' => e = .returned (.tuple #[.int .u32 (a % 4294967296), .int .u32 (b % 4294967296)]) ∧ Below w.heap.size w w' := by
  have ST := Lib.hid (Kn.nil (S := Step.Nil) (W := w))
  go_enter Tryz.func246, Tryz.ntmps246
  go_wp2_with (first
    | ((with_reducible refine Step.gate_box (t := 208) rfl ?_); refine Step.fresh (cs := #[.int .u64 a, .int .u64 b]) (T := 208) rfl ?hr ?_; (case hr => first | (go_simp; done) | (go_simp; rfl)); intro g1 w1 b hg hb; replace ST := Lib.hid (ST.out.made b hg hb); clear b hb; clear hg)
    | ((with_reducible refine Step.gate_load (t := 22) rfl ?_); refine Step.load ST.out.at0 rfl rfl rfl pl_u64 rfl ?_)
    | ((with_reducible refine Step.gate_load (t := 208) rfl ?_); refine Step.loadAll ST.out.at0 rfl rfl rfl Tryz.underlying208 rfl (size_pair _ _) ?_)
    | ((with_reducible refine Sq.region (id := 1) (I := fun X => Kn _ _ X _) ?hm3 8 ST.out.drew ?hp3 ?hs3); (case hm3 => rfl); (case hp3 => kernel_rfl); intro ops K hops hK; clear hops; dsimp only [List.take]; (repeat (first | (refine Sq.seq_move rfl rfl ?_; simp only [Act.put, Act.eval, Array.getD_eq_getD_getElem?, List.getElem?_toArray, List.getElem?_cons_zero, List.getElem?_cons_succ, Option.getD_some, List.setIfInBounds_toArray, List.set_cons_zero, List.set_cons_succ]) | (refine Sq.seq_check rfl rfl rfl ?_; simp only [Act.put, Act.eval, Array.getD_eq_getD_getElem?, List.getElem?_toArray, List.getElem?_cons_zero, List.getElem?_cons_succ, Option.getD_some, List.setIfInBounds_toArray, List.set_cons_zero, List.set_cons_succ]) | (refine Sq.seq_load (t := 22) (fun X hX => hX.at0) (Sq.wanted_none rfl) rfl rfl pl_u64 rfl ?_; simp only [Act.put, Act.eval, Array.getD_eq_getD_getElem?, List.getElem?_toArray, List.getElem?_cons_zero, List.getElem?_cons_succ, Option.getD_some, List.setIfInBounds_toArray, List.set_cons_zero, List.set_cons_succ]) | (refine' Sq.seq_pure rfl (fun X => _) _; rotate_left; (first | (go_simp; done) | (go_simp; rfl)); simp only [Act.put, Act.eval, Array.getD_eq_getD_getElem?, List.getElem?_toArray, List.getElem?_cons_zero, List.getElem?_cons_succ, Option.getD_some, List.setIfInBounds_toArray, List.set_cons_zero, List.set_cons_succ]))); refine Sq.seq_nil ?_; refine hK.out _ fun w1 hk => ?_; clear hK; replace ST := Lib.hid hk; clear hk; dsimp only [List.drop]))
  refine bodyPost_ret (results_tmp2 rfl _ _ _) rfl ?_
  exact ⟨rfl, ST.out.below⟩
set_option maxHeartbeats 2000000 in
theorem signed_any (a b : Int) (w : World) : Calls Tryz.prog 245 #[.agg #[.int .u64 a, .int .u64 b]] w fun e w' => e = .returned (.agg #[.int .u64 (extH (a % 4294967296)), .int .u64 (extH (b % 4294967296))]) ∧ Below w.heap.size w w' := by
  have ST := Lib.hid (Kn.nil (S := Step.Nil) (W := w))
  go_enter Tryz.func245, Tryz.ntmps245
  go_wp2_with (first
    | ((with_reducible refine Step.gate_box (t := 208) rfl ?_); refine Step.fresh (cs := #[.int .u64 a, .int .u64 b]) (T := 208) rfl ?hr ?_; (case hr => first | (go_simp; done) | (go_simp; rfl)); intro g1 w1 b hg hb; replace ST := Lib.hid (ST.out.made b hg hb); clear b hb; clear hg)
    | ((with_reducible refine Step.gate_load (t := 22) rfl ?_); refine Step.load ST.out.at0 rfl rfl rfl pl_u64 rfl ?_)
    | ((with_reducible refine Step.gate_load (t := 208) rfl ?_); refine Step.loadAll ST.out.at0 rfl rfl rfl Tryz.underlying208 rfl (size_pair _ _) ?_)
    | ((with_reducible refine Step.gate_alloc (t := 208) rfl ?_); refine Step.freshAlloc rfl rfl (alloc_agg zero_pair) ?_; intro g2 w2 b hg hb; replace ST := Lib.hid (ST.out.made b hg hb); clear b hb; clear hg)
    | (go_at_call 246; (with_reducible refine (low_any _ _ _).mono ?_); rintro e w' ⟨rfl, hb⟩; replace ST := Lib.hid (ST.out.call hb); clear hb)
    | (go_at_call 154; (with_reducible refine (ext_half _ _).mono ?_); rintro e w' ⟨rfl, hb⟩; replace ST := Lib.hid (ST.out.call hb); clear hb)
    | ((with_reducible refine Step.gate_store (t := 208) rfl ?_); refine Step.storeAll ST.out.at0 rfl rfl rfl rfl rfl (size_pair _ _) rfl rfl ?_; intro w3 nb m; replace ST := Lib.hid (ST.out.set0 nb m); clear nb m)
    | ((with_reducible refine Step.gate_load (t := 208) rfl ?_); refine Step.loadAll ST.out.at1 rfl rfl rfl Tryz.underlying208 rfl (size_pair _ _) ?_))
  refine bodyPost_ret (results_row rfl _ _ g2 _ _ _ rfl ST.out.at0 Tryz.underlying208 rfl (size_pair _ _)) rfl ?_
  exact ⟨rfl, ST.out.below⟩
theorem extH_w (v : Int) : U64 (extH v) := wrap_w _
theorem u32_w (v : Int) : U64 (v % 4294967296) := ⟨by omega, by omega⟩
set_option maxHeartbeats 2000000 in
theorem ans_divw {a b : Int} (ha : U64 a) (hb : U64 b) : Ans 238 a b := by
  obtain ⟨r, hr, T⟩ := ans_div (extH_w (a % 4294967296)) (extH_w (b % 4294967296))
  have T0 := Lib.hid T
  clear T
  refine Ans.at_ (extH (r % 4294967296)) (extH_w _) fun w => ?_
  have ST := Lib.hid (Kn.nil (S := Step.Nil) (W := w))
  go_enter Tryz.func238, Tryz.ntmps238
  go_wp2_with (first
    | ((with_reducible refine Step.gate_box (t := 208) rfl ?_); refine Step.fresh (cs := #[.int .u64 a, .int .u64 b]) (T := 208) rfl ?hr ?_; (case hr => first | (go_simp; done) | (go_simp; rfl)); intro g1 w1 b hg hb; replace ST := Lib.hid (ST.out.made b hg hb); clear b hb; clear hg)
    | ((with_reducible refine Step.gate_load (t := 22) rfl ?_); refine Step.load ST.out.at0 rfl rfl rfl pl_u64 rfl ?_)
    | ((with_reducible refine Step.gate_load (t := 208) rfl ?_); refine Step.loadAll ST.out.at0 rfl rfl rfl Tryz.underlying208 rfl (size_pair _ _) ?_)
    | (go_at_call 245; (with_reducible refine (signed_any _ _ _).mono ?_); rintro e w' ⟨rfl, hb⟩; replace ST := Lib.hid (ST.out.call hb); clear hb)
    | (go_at_call 197; (with_reducible refine (T0.out _).mono ?_); rintro e w' ⟨rfl, hb⟩; replace ST := Lib.hid (ST.out.call hb); clear hb)
    | (go_at_call 154; (with_reducible refine (ext_half _ _).mono ?_); rintro e w' ⟨rfl, hb⟩; replace ST := Lib.hid (ST.out.call hb); clear hb))
  go_ret
  exact ⟨rfl, ST.out.below⟩
set_option maxHeartbeats 2000000 in
theorem ans_remw {a b : Int} (ha : U64 a) (hb : U64 b) : Ans 240 a b := by
  obtain ⟨r, hr, T⟩ := ans_rem (extH_w (a % 4294967296)) (extH_w (b % 4294967296))
  have T0 := Lib.hid T
  clear T
  refine Ans.at_ (extH (r % 4294967296)) (extH_w _) fun w => ?_
  have ST := Lib.hid (Kn.nil (S := Step.Nil) (W := w))
  go_enter Tryz.func240, Tryz.ntmps240
  go_wp2_with (first
    | ((with_reducible refine Step.gate_box (t := 208) rfl ?_); refine Step.fresh (cs := #[.int .u64 a, .int .u64 b]) (T := 208) rfl ?hr ?_; (case hr => first | (go_simp; done) | (go_simp; rfl)); intro g1 w1 b hg hb; replace ST := Lib.hid (ST.out.made b hg hb); clear b hb; clear hg)
    | ((with_reducible refine Step.gate_load (t := 22) rfl ?_); refine Step.load ST.out.at0 rfl rfl rfl pl_u64 rfl ?_)
    | ((with_reducible refine Step.gate_load (t := 208) rfl ?_); refine Step.loadAll ST.out.at0 rfl rfl rfl Tryz.underlying208 rfl (size_pair _ _) ?_)
    | (go_at_call 245; (with_reducible refine (signed_any _ _ _).mono ?_); rintro e w' ⟨rfl, hb⟩; replace ST := Lib.hid (ST.out.call hb); clear hb)
    | (go_at_call 199; (with_reducible refine (T0.out _).mono ?_); rintro e w' ⟨rfl, hb⟩; replace ST := Lib.hid (ST.out.call hb); clear hb)
    | (go_at_call 154; (with_reducible refine (ext_half _ _).mono ?_); rintro e w' ⟨rfl, hb⟩; replace ST := Lib.hid (ST.out.call hb); clear hb))
  go_ret
  exact ⟨rfl, ST.out.below⟩
set_option maxHeartbeats 2000000 in
theorem ans_divuw {a b : Int} (ha : U64 a) (hb : U64 b) : Ans 239 a b := by
  obtain ⟨r, hr, T⟩ := ans_divu (u32_w a) (u32_w b)
  have T0 := Lib.hid T
  clear T
  refine Ans.at_ (extH (r % 4294967296)) (extH_w _) fun w => ?_
  have ST := Lib.hid (Kn.nil (S := Step.Nil) (W := w))
  go_enter Tryz.func239, Tryz.ntmps239
  go_wp2_with (first
    | ((with_reducible refine Step.gate_box (t := 208) rfl ?_); refine Step.fresh (cs := #[.int .u64 a, .int .u64 b]) (T := 208) rfl ?hr ?_; (case hr => first | (go_simp; done) | (go_simp; rfl)); intro g1 w1 b hg hb; replace ST := Lib.hid (ST.out.made b hg hb); clear b hb; clear hg)
    | ((with_reducible refine Step.gate_load (t := 22) rfl ?_); refine Step.load ST.out.at0 rfl rfl rfl pl_u64 rfl ?_)
    | ((with_reducible refine Step.gate_load (t := 208) rfl ?_); refine Step.loadAll ST.out.at0 rfl rfl rfl Tryz.underlying208 rfl (size_pair _ _) ?_)
    | (go_at_call 246; (with_reducible refine (low_any _ _ _).mono ?_); rintro e w' ⟨rfl, hb⟩; replace ST := Lib.hid (ST.out.call hb); clear hb)
    | (go_at_call 198; (with_reducible refine (T0.out _).mono ?_); rintro e w' ⟨rfl, hb⟩; replace ST := Lib.hid (ST.out.call hb); clear hb)
    | (go_at_call 154; (with_reducible refine (ext_half _ _).mono ?_); rintro e w' ⟨rfl, hb⟩; replace ST := Lib.hid (ST.out.call hb); clear hb))
  go_ret
  exact ⟨rfl, ST.out.below⟩
set_option maxHeartbeats 2000000 in
theorem ans_remuw {a b : Int} (ha : U64 a) (hb : U64 b) : Ans 241 a b := by
  obtain ⟨r, hr, T⟩ := ans_remu (u32_w a) (u32_w b)
  have T0 := Lib.hid T
  clear T
  refine Ans.at_ (extH (r % 4294967296)) (extH_w _) fun w => ?_
  have ST := Lib.hid (Kn.nil (S := Step.Nil) (W := w))
  go_enter Tryz.func241, Tryz.ntmps241
  go_wp2_with (first
    | ((with_reducible refine Step.gate_box (t := 208) rfl ?_); refine Step.fresh (cs := #[.int .u64 a, .int .u64 b]) (T := 208) rfl ?hr ?_; (case hr => first | (go_simp; done) | (go_simp; rfl)); intro g1 w1 b hg hb; replace ST := Lib.hid (ST.out.made b hg hb); clear b hb; clear hg)
    | ((with_reducible refine Step.gate_load (t := 22) rfl ?_); refine Step.load ST.out.at0 rfl rfl rfl pl_u64 rfl ?_)
    | ((with_reducible refine Step.gate_load (t := 208) rfl ?_); refine Step.loadAll ST.out.at0 rfl rfl rfl Tryz.underlying208 rfl (size_pair _ _) ?_)
    | (go_at_call 246; (with_reducible refine (low_any _ _ _).mono ?_); rintro e w' ⟨rfl, hb⟩; replace ST := Lib.hid (ST.out.call hb); clear hb)
    | (go_at_call 200; (with_reducible refine (T0.out _).mono ?_); rintro e w' ⟨rfl, hb⟩; replace ST := Lib.hid (ST.out.call hb); clear hb)
    | (go_at_call 154; (with_reducible refine (ext_half _ _).mono ?_); rintro e w' ⟨rfl, hb⟩; replace ST := Lib.hid (ST.out.call hb); clear hb))
  go_ret
  exact ⟨rfl, ST.out.below⟩
end Go.Proofs.YthkodjkkcgdmfaaGreat.Hart
end
