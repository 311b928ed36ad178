/- The fixed answer that each law asks (written by genawake.py). -/
import Derived.Test.YtdhmfjcijcdnjaaEncode
import Derived.Test.YtdhmfjcijcdnjaaExpA
import Derived.Test.YtdhmfjcijcdnjaaEncB
namespace Go.Proofs.Ytdhmfjcijcdnjaa.Enc
open Go Go.RowKit Go.Proofs.Ytdhmfjcijcdnjaa.Step
set_option linter.unusedVariables false
set_option linter.unusedSimpArgs false
set_option maxRecDepth 100000
theorem u16_and_nat (a b : Nat) (ha : a < 65536) (hb : b < 65536) : bits .and .u16 (a : Int) (b : Int) = ((a &&& b : Nat) : Int) := by
  have hx : a &&& b < 2 ^ 16 := Nat.and_lt_two_pow _ (by omega)
  show IntKind.u16.wrap ((BitVec.ofInt 16 (a : Int) &&& BitVec.ofInt 16 (b : Int)).toNat : Int) = _
  rw [BitVec.toNat_and, BitVec.ofInt_natCast, BitVec.ofInt_natCast, BitVec.toNat_ofNat, BitVec.toNat_ofNat, Nat.mod_eq_of_lt (by omega), Nat.mod_eq_of_lt (by omega)]
  show (_ : Int) % 65536 = _
  omega
theorem u16_mask3 {c : Int} (h : 0 ≤ c ∧ c < 65536) : bits .and .u16 c 3 = c % 4 := by
  obtain ⟨n, rfl⟩ := Int.eq_ofNat_of_zero_le h.1
  have := u16_and_nat n 3 (by omega) (by decide)
  rw [show ((3 : Nat) : Int) = 3 from rfl] at this
  rw [this, show n &&& 3 = n % 4 from Nat.and_two_pow_sub_one_eq_mod n 2]
  omega

theorem said {d : Option Ins} {i : Ins} {e : Ending} (h : Says d e) (hd : d = some i) : e = .returned (.tuple #[.agg i.cells, .bool true]) := by
  obtain ⟨j, ok, rfl, h2⟩ := h
  rw [hd] at h2
  cases ok with
  | true => simp only [if_true, Option.some.injEq] at h2; subst h2; rfl
  | false => simp at h2
theorem size_any (c : Int) (h0 : 0 ≤ c ∧ c < 65536) (w : World) : Calls Try.prog 16 #[.int .u16 c] w fun e w' => e = .returned (.int .i64 (if c % 4 = 3 then 4 else 2)) ∧ Below w.heap.size w w' := by
  have hm : bits .and .u16 c 3 = c % 4 := u16_mask3 h0
  by_cases h : c % 4 = 3
  · rw [if_pos h]
    rw [h] at hm
    clear h h0
    go_enter Try.func16, Try.ntmps16
    have HB := Lib.hid (Below.refl _ _ : Below w.heap.size w w)
    go_wp2
    go_ret
    exact ⟨rfl, HB.out⟩
  · rw [if_neg h]
    have hm' : (bits .and .u16 c 3 == 3) = false := by rw [hm]; exact beq_eq_false_iff_ne.2 h
    clear hm h h0
    go_enter Try.func16, Try.ntmps16
    have HB := Lib.hid (Below.refl _ _ : Below w.heap.size w w)
    go_wp2
    go_ret
    exact ⟨rfl, HB.out⟩

theorem awake_first (w : World) : Calls Try.prog 52 #[.int .u16 16776] w fun e w' => e = .returned (.tuple #[.agg #[.int .i64 6, .int .i64 0, .int .i64 10, .int .i64 11, .int .i64 0, .int .i64 0, .int .i64 4, .bool true], .bool true]) ∧ Below w.heap.size w w' :=
  (first_any 16776 ⟨by decide, by decide⟩ w).mono fun e w' h => ⟨said h.1 (i := ⟨6, 0, 10, 11, 0, 0, 4, true⟩) rfl, h.2⟩
theorem awake_expand (w : World) : Calls Try.prog 31 #[.int .u16 16776] w fun e w' => e = .returned (.tuple #[.agg #[.int .i64 6, .int .i64 0, .int .i64 10, .int .i64 11, .int .i64 0, .int .i64 0, .int .i64 4, .bool true], .bool true]) ∧ Below w.heap.size w w' := by
  have T0 := Lib.hid awake_first
  go_enter Try.func31, Try.ntmps31
  go_wp2_with (first
    | (go_at_call 52; (with_reducible refine (T0.out _).mono ?_); rintro e w' ⟨rfl, hb⟩; (try (have pb_ := Lib.hid (PB.out.below hb); clear PB; have PB := pb_)); have st_ := Lib.hid (ST.out.call hb); clear ST hb; have ST := st_)
    | ((with_reducible refine Step.gate_alloc (t := 24) rfl ?_); refine Step.freshAlloc rfl rfl (alloc_agg zero_inst) ?_; intro g1 w1 b hg hb; have ST := Lib.hid (S1.made b hg hb); clear b hg hb)
    | ((with_reducible refine Step.gate_store (t := 3) rfl ?_); refine Step.store ST.out.one rfl rfl rfl rfl rfl pl_int rfl rfl ?_; intro w3 nb m; have st_ := Lib.hid (ST.out.set1 nb m); clear ST nb m; have ST := st_)
    | ((with_reducible refine Step.gate_store (t := 4) rfl ?_); refine Step.store ST.out.one rfl rfl rfl rfl rfl pl_bool rfl rfl ?_; intro w3 nb m; have st_ := Lib.hid (ST.out.set1 nb m); clear ST nb m; have ST := st_)
    | ((with_reducible refine Step.gate_store (t := 24) rfl ?_); refine Step.storeAll ST.out.one rfl rfl rfl rfl rfl size_inst rfl rfl ?_; intro w3 nb m; have st_ := Lib.hid (ST.out.set1 nb m); clear ST nb m; have ST := st_)
    | ((with_reducible refine Step.gate_load (t := 3) rfl ?_); refine Step.load ST.out.one rfl rfl rfl pl_int rfl ?_)
    | ((with_reducible refine Step.gate_load (t := 4) rfl ?_); refine Step.load ST.out.one rfl rfl rfl pl_bool rfl ?_)
    | ((with_reducible refine Step.gate_load (t := 24) rfl ?_); refine Step.loadAll ST.out.one rfl rfl rfl Try.underlying24 rfl size_inst ?_))
  refine bodyPost_ret (results_row_tmp rfl _ _ g1 _ _ _ rfl ST.out.one Try.underlying24 rfl size_inst) rfl ⟨rfl, ST.out.below⟩

theorem awake_encode (w : World) : Calls Try.prog 12 #[.agg #[.int .i64 6, .int .i64 0, .int .i64 10, .int .i64 11, .int .i64 0, .int .i64 0, .int .i64 4, .bool true]] w fun e w' => e = .returned (.tuple #[.int .u32 369923, .bool true]) ∧ Below w.heap.size w w' :=
  Encode_yes ⟨6, 0, 10, 11, 0, 0, 4, true⟩ 369923 ⟨by decide, by decide⟩ (by rfl) (Lib.hid fun w => encode_6_true 0 10 11 0 0 4 w) w
theorem awake_Expand (w : World) : Calls Try.prog 14 #[.int .u16 16776] w fun e w' => e = .returned (.tuple #[.int .u32 369923, .bool true]) ∧ Below w.heap.size w w' := by
  have T0 := Lib.hid awake_expand
  have T1 := Lib.hid awake_encode
  have HB := Lib.hid (Below.refl _ _ : Below w.heap.size w w)
  go_enter Try.func14, Try.ntmps14
  go_wp2_with (first
    | (go_at_call 31; (with_reducible refine (T0.out _).mono ?_); rintro e w' ⟨rfl, hb⟩; have hb_ := Lib.hid (below_below HB.out hb); clear HB hb; have HB := hb_)
    | (go_at_call 12; (with_reducible refine (T1.out _).mono ?_); rintro e w' ⟨rfl, hb⟩; have st_ := Lib.hid (ST.out.call hb); clear ST hb; have ST := st_)
    | ((with_reducible refine Step.gate_alloc (t := 24) rfl ?_); refine Step.freshAlloc rfl rfl (alloc_agg zero_inst) ?_; intro g1 w1 b hg hb; have ST := Lib.hid (S1.mk (below_below HB.out hb) b (Nat.le_trans HB.out.size hg)); clear b hg hb)
    | ((with_reducible refine Step.gate_store (t := 3) rfl ?_); refine Step.store ST.out.one rfl rfl rfl rfl rfl pl_int rfl rfl ?_; intro w3 nb m; have st_ := Lib.hid (ST.out.set1 nb m); clear ST nb m; have ST := st_)
    | ((with_reducible refine Step.gate_store (t := 4) rfl ?_); refine Step.store ST.out.one rfl rfl rfl rfl rfl pl_bool rfl rfl ?_; intro w3 nb m; have st_ := Lib.hid (ST.out.set1 nb m); clear ST nb m; have ST := st_)
    | ((with_reducible refine Step.gate_store (t := 24) rfl ?_); refine Step.storeAll ST.out.one rfl rfl rfl rfl rfl size_inst rfl rfl ?_; intro w3 nb m; have st_ := Lib.hid (ST.out.set1 nb m); clear ST nb m; have ST := st_)
    | ((with_reducible refine Step.gate_load (t := 3) rfl ?_); refine Step.load ST.out.one rfl rfl rfl pl_int rfl ?_)
    | ((with_reducible refine Step.gate_load (t := 4) rfl ?_); refine Step.load ST.out.one rfl rfl rfl pl_bool rfl ?_)
    | ((with_reducible refine Step.gate_load (t := 24) rfl ?_); refine Step.loadAll ST.out.one rfl rfl rfl Try.underlying24 rfl size_inst ?_))
  go_ret2
  exact ⟨rfl, ST.out.below⟩
theorem awake_any (w : World) : Calls Try.prog 11 #[] w fun e w' => e = .returned (.bool true) ∧ Below w.heap.size w w' := by
  have T0 := Lib.hid (fun w => Decode_any 5243027 ⟨by decide, by decide⟩ w)
  rw [show dec 5243027 = some ⟨9, 1, 1, 0, 0, 5, 0, false⟩ from by rfl] at T0
  simp only [told, Ins.cells] at T0
  have T1 := Lib.hid awake_Expand
  have T2 := Lib.hid (fun w => size_any 3 (by decide) w)
  rw [if_pos (by decide)] at T2
  have HB := Lib.hid (Below.refl _ _ : Below w.heap.size w w)
  go_enter Try.func11, Try.ntmps11
  go_wp2_with (first
    | (go_at_call 9; (with_reducible refine (T0.out _).mono ?_); rintro e w' ⟨rfl, hb⟩; have hb_ := Lib.hid (below_below HB.out hb); clear HB hb; have HB := hb_)
    | (go_at_call 14; (with_reducible refine (T1.out _).mono ?_); rintro e w' ⟨rfl, hb⟩; have st_ := Lib.hid (ST.out.call hb); clear ST hb; have ST := st_)
    | (go_at_call 16; (with_reducible refine (T2.out _).mono ?_); rintro e w' ⟨rfl, hb⟩; have st_ := Lib.hid (ST.out.call hb); clear ST hb; have ST := st_)
    | ((with_reducible refine Step.gate_alloc (t := 24) rfl ?_); refine Step.freshAlloc rfl rfl (alloc_agg zero_inst) ?_; intro g1 w1 b hg hb; have ST := Lib.hid (S1.mk (below_below HB.out hb) b (Nat.le_trans HB.out.size hg)); clear b hg hb)
    | ((with_reducible refine Step.gate_load (t := 24) rfl ?_); refine loadAllW ST.out.one rfl rfl rfl Try.underlying24 rfl size_inst ?_)
    | ((with_reducible refine Step.gate_store (t := 3) rfl ?_); refine Step.store ST.out.one rfl rfl rfl rfl rfl pl_int rfl rfl ?_; intro w3 nb m; have st_ := Lib.hid (ST.out.set1 nb m); clear ST nb m; have ST := st_)
    | ((with_reducible refine Step.gate_store (t := 4) rfl ?_); refine Step.store ST.out.one rfl rfl rfl rfl rfl pl_bool rfl rfl ?_; intro w3 nb m; have st_ := Lib.hid (ST.out.set1 nb m); clear ST nb m; have ST := st_)
    | ((with_reducible refine Step.gate_store (t := 24) rfl ?_); refine Step.storeAll ST.out.one rfl rfl rfl rfl rfl size_inst rfl rfl ?_; intro w3 nb m; have st_ := Lib.hid (ST.out.set1 nb m); clear ST nb m; have ST := st_)
    | ((with_reducible refine Step.gate_load (t := 3) rfl ?_); refine Step.load ST.out.one rfl rfl rfl pl_int rfl ?_)
    | ((with_reducible refine Step.gate_load (t := 4) rfl ?_); refine Step.load ST.out.one rfl rfl rfl pl_bool rfl ?_)
    | ((with_reducible refine Step.gate_load (t := 24) rfl ?_); refine Step.loadAll ST.out.one rfl rfl rfl Try.underlying24 rfl size_inst ?_))
  go_ret
  exact ⟨rfl, ST.out.below⟩
end Go.Proofs.Ytdhmfjcijcdnjaa.Enc
