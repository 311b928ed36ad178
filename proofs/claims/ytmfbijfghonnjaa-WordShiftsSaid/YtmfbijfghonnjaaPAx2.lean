/- What the program's functions answer, call by call, and the row of a law; no conditions beyond each theorem's own. Written by a program of this repo (xprint.py, over the kit's printer, with contracts of the session's own). Lean checks it. -/
import Derived.Test.YtmfbijfghonnjaaPAx0
import Derived.Test.YtmfbijfghonnjaaPAx1
namespace Go.Proofs.Ytmfbijfghonnjaa.PA
open Go.RowKit Go.Proofs.YtmfbijfghonnjaaW.PrintWords Go.Proofs.YtmfbijfghonnjaaW.PrintLast Go.Proofs.YtmfbijfghonnjaaW.PrintMore
attribute [local go_sem] max2_int min2_int max_two min_two max_three min_three max_four min_four   -- for this text's walks alone
set_option linter.unusedVariables false
set_option linter.unusedSimpArgs false

/-! ### word_pair_divuw: function 66 -/
def word_pair_divuw.f (a0_0 : Int) (a0_1 : Int) : Option (Int) := (word_pair_low.f a0_0 a0_1).bind fun bt152 => ((word_pair_divu.f (IntKind.u64.wrap (bt152.1)) (IntKind.u64.wrap (bt152.2))).bind fun t154 => ((word_extended.f ((t154) % 4294967296)).bind fun t155 => (some t155)))
set_option maxHeartbeats 8000000 in
set_option maxRecDepth 100000 in
theorem word_pair_divuw.calls (a0_0 : Int) (a0_1 : Int) (r : Int) (w : World) (h : word_pair_divuw.f a0_0 a0_1 = some r) :
    Calls Try.prog 66 #[.agg #[.int .u64 a0_0, .int .u64 a0_1]] w fun e w' => e = .returned (.int .u64 r) ∧ Below w.heap.size w w' := by
  have hu38 := Try.underlying38
  have HB := Aside0.mk (Below.refl w.heap.size w)
  have H : ((word_pair_low.f a0_0 a0_1).bind fun bt152 => ((word_pair_divu.f (IntKind.u64.wrap (bt152.1)) (IntKind.u64.wrap (bt152.2))).bind fun t154 => ((word_extended.f ((t154) % 4294967296)).bind fun t155 => (some t155)))) = some r := h
  clear h
  replace H := Option.bind_eq_some_iff.mp H
  obtain ⟨⟨t152, t153⟩, A20, H⟩ := H
  replace H : ((word_pair_divu.f (IntKind.u64.wrap (t152)) (IntKind.u64.wrap (t153))).bind fun t154 => ((word_extended.f ((t154) % 4294967296)).bind fun t155 => (some t155))) = some r := H
  have A2 := Aside0.mk A20
  clear A20
  replace H := Option.bind_eq_some_iff.mp H
  obtain ⟨t154, A30, H⟩ := H
  replace H : ((word_extended.f ((t154) % 4294967296)).bind fun t155 => (some t155)) = some r := H
  have A3 := Aside0.mk A30
  clear A30
  replace H := Option.bind_eq_some_iff.mp H
  obtain ⟨t155, A40, H⟩ := H
  replace H : (some t155) = some r := H
  have A4 := Aside0.mk A40
  clear A40
  obtain rfl := Option.some.inj H
  go_enter Try.func66, Try.ntmps66
  go_wp2_with (first | ((with_reducible refine gate_dst (N := 1) rfl ?_); refine box_event ?hg (N := 1) ?hd (cs := #[.int .u64 a0_0, .int .u64 a0_1]) (t := 38) ?hr ?_; (case hd => rfl); (case hg => rfl); (case hr => first | (go_simp; done) | (go_simp; rfl)); intro gb151 hg w5 hbox hb; have n0_ := Aside0.mk (below_step (by repeat (first | (with_reducible first | exact HB.out | apply below_alloc | apply pw_below_drewN | apply below_drew1) | exact HB.out)) hb); have n1_ := Aside0.mk (hbox); have n2_ := Aside0.mk ((by rw [hg]; exact (below_size (by repeat (first | (with_reducible first | exact HB.out | apply below_alloc | apply pw_below_drewN | apply below_drew1) | exact HB.out))) : w.heap.size ≤ gb151)); have n3_ := Aside0.mk ((by rw [hg]; exact (below_size (by repeat (first | (with_reducible first | exact HB.out | apply below_alloc | apply pw_below_drewN | apply below_drew1) | exact HB.out))) : w.heap.size ≤ gb151)); clear HB; have HB := n0_; have BK151 := n1_; have GW151 := n2_; have GE151 := n3_; clear n0_ n1_ n2_ n3_; clear hb hbox hg; have hcz6_0 : w5.cell? ⟨gb151, 0, none⟩ = some (.int .u64 a0_0) := (blk_cell BK151.out 0).trans rfl; have hcz6_1 : w5.cell? ⟨gb151, 1, none⟩ = some (.int .u64 a0_1) := (blk_cell BK151.out 1).trans rfl; have hfz6_0 := blk_frozen BK151.out 0; have hfz6_1 := blk_frozen BK151.out 1) | ((with_reducible refine gate_callee (f := 70) rfl ?_); refine goesL_ (some 7) rfl rfl Try.func70 (by kernel_rfl) rfl #[.agg #[.int .u64 a0_0, .int .u64 a0_1]] rfl (by (try simp only [List.map_toArray, List.map_cons, List.map_nil]); first | done | rfl | (simp only [List.length_drop, List.length_take]; rfl)) ?_; (with_reducible refine (word_pair_low.calls a0_0 a0_1 t152 t153 _ A2.out).mono ?_); rintro e w7 ⟨rfl, hb⟩; refine ⟨_, rfl, ?_⟩; have n0_ := Aside0.mk (blk_below (g := gb151) (o := .cells #[.int .u64 a0_0, .int .u64 a0_1] 38 (0, 0)) (by (with_reducible repeat (first | refine blk_drewN ?_ _ | refine blk_drew ?_ | refine blk_alloc ?_ _)); exact BK151.out) hb); have n1_ := Aside0.mk (below_step (by repeat (first | (with_reducible first | exact HB.out | apply below_alloc | apply pw_below_drewN | apply below_drew1 | refine below_set ?_ GE151.out) | exact HB.out)) hb); clear BK151; clear HB; have BK151 := n0_; have HB := n1_; clear n0_ n1_; (try clear hb); (try clear hb2); (try clear hk); (try clear hi)) | ((with_reducible refine gate_callee (f := 51) rfl ?_); refine goesL_ (some 15) rfl rfl Try.func51 (by kernel_rfl) rfl #[.agg #[.int .u64 (IntKind.u64.wrap (t152)), .int .u64 (IntKind.u64.wrap (t153))]] rfl (by (try simp only [List.map_toArray, List.map_cons, List.map_nil]); first | done | rfl | (simp only [List.length_drop, List.length_take]; rfl)) ?_; (with_reducible refine (word_pair_divu.calls (IntKind.u64.wrap (t152)) (IntKind.u64.wrap (t153)) t154 _ A3.out).mono ?_); rintro e w8 ⟨rfl, hb⟩; refine ⟨_, rfl, ?_⟩; have n0_ := Aside0.mk (blk_below (g := gb151) (o := .cells #[.int .u64 a0_0, .int .u64 a0_1] 38 (0, 0)) (by (with_reducible repeat (first | refine blk_drewN ?_ _ | refine blk_drew ?_ | refine blk_alloc ?_ _)); exact BK151.out) hb); have n1_ := Aside0.mk (below_step (by repeat (first | (with_reducible first | exact HB.out | apply below_alloc | apply pw_below_drewN | apply below_drew1 | refine below_set ?_ GE151.out) | exact HB.out)) hb); clear BK151; clear HB; have BK151 := n0_; have HB := n1_; clear n0_ n1_; (try clear hb); (try clear hb2); (try clear hk); (try clear hi)) | ((with_reducible refine gate_callee (f := 34) rfl ?_); refine goesL_ (some 17) rfl rfl Try.func34 (by kernel_rfl) rfl #[.int .u32 ((t154) % 4294967296)] rfl (by (try simp only [List.map_toArray, List.map_cons, List.map_nil]); first | done | rfl | (simp only [List.length_drop, List.length_take]; rfl)) ?_; (with_reducible refine (word_extended.calls ((t154) % 4294967296) t155 _ A4.out).mono ?_); rintro e w' ⟨rfl, ⟨nd, rfl⟩⟩; refine ⟨_, rfl, ?_⟩))
  go_ret
  exact ⟨by first | rfl | (simp [errW_none, errW_some] <;> rfl) | (simp [*, errW_none, errW_some] <;> rfl), by repeat (first | (with_reducible first | exact HB.out | apply below_alloc | apply pw_below_drewN | apply below_drew1 | refine below_set ?_ GE151.out) | exact HB.out)⟩

/-! ### word_pair_remw: function 67 -/
def word_pair_remw.f (a0_0 : Int) (a0_1 : Int) : Option (Int) := (word_pair_signed.f a0_0 a0_1).bind fun bt157 => ((word_pair_rem.f bt157.1 bt157.2).bind fun t159 => ((word_extended.f ((t159) % 4294967296)).bind fun t160 => (some t160)))
set_option maxHeartbeats 8000000 in
set_option maxRecDepth 100000 in
theorem word_pair_remw.calls (a0_0 : Int) (a0_1 : Int) (r : Int) (w : World) (h : word_pair_remw.f a0_0 a0_1 = some r) :
    Calls Try.prog 67 #[.agg #[.int .u64 a0_0, .int .u64 a0_1]] w fun e w' => e = .returned (.int .u64 r) ∧ Below w.heap.size w w' := by
  have hu38 := Try.underlying38
  have HB := Aside0.mk (Below.refl w.heap.size w)
  have H : ((word_pair_signed.f a0_0 a0_1).bind fun bt157 => ((word_pair_rem.f bt157.1 bt157.2).bind fun t159 => ((word_extended.f ((t159) % 4294967296)).bind fun t160 => (some t160)))) = some r := h
  clear h
  replace H := Option.bind_eq_some_iff.mp H
  obtain ⟨⟨t157, t158⟩, A20, H⟩ := H
  replace H : ((word_pair_rem.f t157 t158).bind fun t159 => ((word_extended.f ((t159) % 4294967296)).bind fun t160 => (some t160))) = some r := H
  have A2 := Aside0.mk A20
  clear A20
  replace H := Option.bind_eq_some_iff.mp H
  obtain ⟨t159, A30, H⟩ := H
  replace H : ((word_extended.f ((t159) % 4294967296)).bind fun t160 => (some t160)) = some r := H
  have A3 := Aside0.mk A30
  clear A30
  replace H := Option.bind_eq_some_iff.mp H
  obtain ⟨t160, A40, H⟩ := H
  replace H : (some t160) = some r := H
  have A4 := Aside0.mk A40
  clear A40
  obtain rfl := Option.some.inj H
  go_enter Try.func67, Try.ntmps67
  go_wp2_with (first | ((with_reducible refine gate_dst (N := 1) rfl ?_); refine box_event ?hg (N := 1) ?hd (cs := #[.int .u64 a0_0, .int .u64 a0_1]) (t := 38) ?hr ?_; (case hd => rfl); (case hg => rfl); (case hr => first | (go_simp; done) | (go_simp; rfl)); intro gb156 hg w5 hbox hb; have n0_ := Aside0.mk (below_step (by repeat (first | (with_reducible first | exact HB.out | apply below_alloc | apply pw_below_drewN | apply below_drew1) | exact HB.out)) hb); have n1_ := Aside0.mk (hbox); have n2_ := Aside0.mk ((by rw [hg]; exact (below_size (by repeat (first | (with_reducible first | exact HB.out | apply below_alloc | apply pw_below_drewN | apply below_drew1) | exact HB.out))) : w.heap.size ≤ gb156)); have n3_ := Aside0.mk ((by rw [hg]; exact (below_size (by repeat (first | (with_reducible first | exact HB.out | apply below_alloc | apply pw_below_drewN | apply below_drew1) | exact HB.out))) : w.heap.size ≤ gb156)); clear HB; have HB := n0_; have BK156 := n1_; have GW156 := n2_; have GE156 := n3_; clear n0_ n1_ n2_ n3_; clear hb hbox hg; have hcz6_0 : w5.cell? ⟨gb156, 0, none⟩ = some (.int .u64 a0_0) := (blk_cell BK156.out 0).trans rfl; have hcz6_1 : w5.cell? ⟨gb156, 1, none⟩ = some (.int .u64 a0_1) := (blk_cell BK156.out 1).trans rfl; have hfz6_0 := blk_frozen BK156.out 0; have hfz6_1 := blk_frozen BK156.out 1) | ((with_reducible refine gate_callee (f := 69) rfl ?_); refine goesL_ (some 4) rfl rfl Try.func69 (by kernel_rfl) rfl #[.agg #[.int .u64 a0_0, .int .u64 a0_1]] rfl (by (try simp only [List.map_toArray, List.map_cons, List.map_nil]); first | done | rfl | (simp only [List.length_drop, List.length_take]; rfl)) ?_; (with_reducible refine (word_pair_signed.calls a0_0 a0_1 t157 t158 _ A2.out).mono ?_); rintro e w7 ⟨rfl, hb⟩; refine ⟨_, rfl, ?_⟩; have n0_ := Aside0.mk (blk_below (g := gb156) (o := .cells #[.int .u64 a0_0, .int .u64 a0_1] 38 (0, 0)) (by (with_reducible repeat (first | refine blk_drewN ?_ _ | refine blk_drew ?_ | refine blk_alloc ?_ _)); exact BK156.out) hb); have n1_ := Aside0.mk (below_step (by repeat (first | (with_reducible first | exact HB.out | apply below_alloc | apply pw_below_drewN | apply below_drew1 | refine below_set ?_ GE156.out) | exact HB.out)) hb); clear BK156; clear HB; have BK156 := n0_; have HB := n1_; clear n0_ n1_; (try clear hb); (try clear hb2); (try clear hk); (try clear hi)) | ((with_reducible refine gate_callee (f := 52) rfl ?_); refine goesL_ (some 5) rfl rfl Try.func52 (by kernel_rfl) rfl #[.agg #[.int .u64 t157, .int .u64 t158]] rfl (by (try simp only [List.map_toArray, List.map_cons, List.map_nil]); first | done | rfl | (simp only [List.length_drop, List.length_take]; rfl)) ?_; (with_reducible refine (word_pair_rem.calls t157 t158 t159 _ A3.out).mono ?_); rintro e w8 ⟨rfl, hb⟩; refine ⟨_, rfl, ?_⟩; have n0_ := Aside0.mk (blk_below (g := gb156) (o := .cells #[.int .u64 a0_0, .int .u64 a0_1] 38 (0, 0)) (by (with_reducible repeat (first | refine blk_drewN ?_ _ | refine blk_drew ?_ | refine blk_alloc ?_ _)); exact BK156.out) hb); have n1_ := Aside0.mk (below_step (by repeat (first | (with_reducible first | exact HB.out | apply below_alloc | apply pw_below_drewN | apply below_drew1 | refine below_set ?_ GE156.out) | exact HB.out)) hb); clear BK156; clear HB; have BK156 := n0_; have HB := n1_; clear n0_ n1_; (try clear hb); (try clear hb2); (try clear hk); (try clear hi)) | ((with_reducible refine gate_callee (f := 34) rfl ?_); refine goesL_ (some 7) rfl rfl Try.func34 (by kernel_rfl) rfl #[.int .u32 ((t159) % 4294967296)] rfl (by (try simp only [List.map_toArray, List.map_cons, List.map_nil]); first | done | rfl | (simp only [List.length_drop, List.length_take]; rfl)) ?_; (with_reducible refine (word_extended.calls ((t159) % 4294967296) t160 _ A4.out).mono ?_); rintro e w' ⟨rfl, ⟨nd, rfl⟩⟩; refine ⟨_, rfl, ?_⟩))
  go_ret
  exact ⟨by first | rfl | (simp [errW_none, errW_some] <;> rfl) | (simp [*, errW_none, errW_some] <;> rfl), by repeat (first | (with_reducible first | exact HB.out | apply below_alloc | apply pw_below_drewN | apply below_drew1 | refine below_set ?_ GE156.out) | exact HB.out)⟩

/-! ### word_pair_remuw: function 68 -/
def word_pair_remuw.f (a0_0 : Int) (a0_1 : Int) : Option (Int) := (word_pair_low.f a0_0 a0_1).bind fun bt162 => ((word_pair_remu.f (IntKind.u64.wrap (bt162.1)) (IntKind.u64.wrap (bt162.2))).bind fun t164 => ((word_extended.f ((t164) % 4294967296)).bind fun t165 => (some t165)))
set_option maxHeartbeats 8000000 in
set_option maxRecDepth 100000 in
theorem word_pair_remuw.calls (a0_0 : Int) (a0_1 : Int) (r : Int) (w : World) (h : word_pair_remuw.f a0_0 a0_1 = some r) :
    Calls Try.prog 68 #[.agg #[.int .u64 a0_0, .int .u64 a0_1]] w fun e w' => e = .returned (.int .u64 r) ∧ Below w.heap.size w w' := by
  have hu38 := Try.underlying38
  have HB := Aside0.mk (Below.refl w.heap.size w)
  have H : ((word_pair_low.f a0_0 a0_1).bind fun bt162 => ((word_pair_remu.f (IntKind.u64.wrap (bt162.1)) (IntKind.u64.wrap (bt162.2))).bind fun t164 => ((word_extended.f ((t164) % 4294967296)).bind fun t165 => (some t165)))) = some r := h
  clear h
  replace H := Option.bind_eq_some_iff.mp H
  obtain ⟨⟨t162, t163⟩, A20, H⟩ := H
  replace H : ((word_pair_remu.f (IntKind.u64.wrap (t162)) (IntKind.u64.wrap (t163))).bind fun t164 => ((word_extended.f ((t164) % 4294967296)).bind fun t165 => (some t165))) = some r := H
  have A2 := Aside0.mk A20
  clear A20
  replace H := Option.bind_eq_some_iff.mp H
  obtain ⟨t164, A30, H⟩ := H
  replace H : ((word_extended.f ((t164) % 4294967296)).bind fun t165 => (some t165)) = some r := H
  have A3 := Aside0.mk A30
  clear A30
  replace H := Option.bind_eq_some_iff.mp H
  obtain ⟨t165, A40, H⟩ := H
  replace H : (some t165) = some r := H
  have A4 := Aside0.mk A40
  clear A40
  obtain rfl := Option.some.inj H
  go_enter Try.func68, Try.ntmps68
  go_wp2_with (first | ((with_reducible refine gate_dst (N := 1) rfl ?_); refine box_event ?hg (N := 1) ?hd (cs := #[.int .u64 a0_0, .int .u64 a0_1]) (t := 38) ?hr ?_; (case hd => rfl); (case hg => rfl); (case hr => first | (go_simp; done) | (go_simp; rfl)); intro gb161 hg w5 hbox hb; have n0_ := Aside0.mk (below_step (by repeat (first | (with_reducible first | exact HB.out | apply below_alloc | apply pw_below_drewN | apply below_drew1) | exact HB.out)) hb); have n1_ := Aside0.mk (hbox); have n2_ := Aside0.mk ((by rw [hg]; exact (below_size (by repeat (first | (with_reducible first | exact HB.out | apply below_alloc | apply pw_below_drewN | apply below_drew1) | exact HB.out))) : w.heap.size ≤ gb161)); have n3_ := Aside0.mk ((by rw [hg]; exact (below_size (by repeat (first | (with_reducible first | exact HB.out | apply below_alloc | apply pw_below_drewN | apply below_drew1) | exact HB.out))) : w.heap.size ≤ gb161)); clear HB; have HB := n0_; have BK161 := n1_; have GW161 := n2_; have GE161 := n3_; clear n0_ n1_ n2_ n3_; clear hb hbox hg; have hcz6_0 : w5.cell? ⟨gb161, 0, none⟩ = some (.int .u64 a0_0) := (blk_cell BK161.out 0).trans rfl; have hcz6_1 : w5.cell? ⟨gb161, 1, none⟩ = some (.int .u64 a0_1) := (blk_cell BK161.out 1).trans rfl; have hfz6_0 := blk_frozen BK161.out 0; have hfz6_1 := blk_frozen BK161.out 1) | ((with_reducible refine gate_callee (f := 70) rfl ?_); refine goesL_ (some 7) rfl rfl Try.func70 (by kernel_rfl) rfl #[.agg #[.int .u64 a0_0, .int .u64 a0_1]] rfl (by (try simp only [List.map_toArray, List.map_cons, List.map_nil]); first | done | rfl | (simp only [List.length_drop, List.length_take]; rfl)) ?_; (with_reducible refine (word_pair_low.calls a0_0 a0_1 t162 t163 _ A2.out).mono ?_); rintro e w7 ⟨rfl, hb⟩; refine ⟨_, rfl, ?_⟩; have n0_ := Aside0.mk (blk_below (g := gb161) (o := .cells #[.int .u64 a0_0, .int .u64 a0_1] 38 (0, 0)) (by (with_reducible repeat (first | refine blk_drewN ?_ _ | refine blk_drew ?_ | refine blk_alloc ?_ _)); exact BK161.out) hb); have n1_ := Aside0.mk (below_step (by repeat (first | (with_reducible first | exact HB.out | apply below_alloc | apply pw_below_drewN | apply below_drew1 | refine below_set ?_ GE161.out) | exact HB.out)) hb); clear BK161; clear HB; have BK161 := n0_; have HB := n1_; clear n0_ n1_; (try clear hb); (try clear hb2); (try clear hk); (try clear hi)) | ((with_reducible refine gate_callee (f := 53) rfl ?_); refine goesL_ (some 15) rfl rfl Try.func53 (by kernel_rfl) rfl #[.agg #[.int .u64 (IntKind.u64.wrap (t162)), .int .u64 (IntKind.u64.wrap (t163))]] rfl (by (try simp only [List.map_toArray, List.map_cons, List.map_nil]); first | done | rfl | (simp only [List.length_drop, List.length_take]; rfl)) ?_; (with_reducible refine (word_pair_remu.calls (IntKind.u64.wrap (t162)) (IntKind.u64.wrap (t163)) t164 _ A3.out).mono ?_); rintro e w8 ⟨rfl, hb⟩; refine ⟨_, rfl, ?_⟩; have n0_ := Aside0.mk (blk_below (g := gb161) (o := .cells #[.int .u64 a0_0, .int .u64 a0_1] 38 (0, 0)) (by (with_reducible repeat (first | refine blk_drewN ?_ _ | refine blk_drew ?_ | refine blk_alloc ?_ _)); exact BK161.out) hb); have n1_ := Aside0.mk (below_step (by repeat (first | (with_reducible first | exact HB.out | apply below_alloc | apply pw_below_drewN | apply below_drew1 | refine below_set ?_ GE161.out) | exact HB.out)) hb); clear BK161; clear HB; have BK161 := n0_; have HB := n1_; clear n0_ n1_; (try clear hb); (try clear hb2); (try clear hk); (try clear hi)) | ((with_reducible refine gate_callee (f := 34) rfl ?_); refine goesL_ (some 17) rfl rfl Try.func34 (by kernel_rfl) rfl #[.int .u32 ((t164) % 4294967296)] rfl (by (try simp only [List.map_toArray, List.map_cons, List.map_nil]); first | done | rfl | (simp only [List.length_drop, List.length_take]; rfl)) ?_; (with_reducible refine (word_extended.calls ((t164) % 4294967296) t165 _ A4.out).mono ?_); rintro e w' ⟨rfl, ⟨nd, rfl⟩⟩; refine ⟨_, rfl, ?_⟩))
  go_ret
  exact ⟨by first | rfl | (simp [errW_none, errW_some] <;> rfl) | (simp [*, errW_none, errW_some] <;> rfl), by repeat (first | (with_reducible first | exact HB.out | apply below_alloc | apply pw_below_drewN | apply below_drew1 | refine below_set ?_ GE161.out) | exact HB.out)⟩

-- passed over: function 54 (citadel/word.narrow)

-- passed over: function 24 (citadel/word.operation)

def word_Alu.f (a0 : Int) (a1 : Int) (a2 : Int) : Option (Int) := if a0 = 1 then word_pair_add.f a1 a2 else (if a0 = 2 then word_pair_sub.f a1 a2 else (if a0 = 3 then word_pair_sll.f a1 a2 else (if a0 = 4 then word_pair_slt.f a1 a2 else (if a0 = 5 then word_pair_sltu.f a1 a2 else (if a0 = 6 then word_pair_xor.f a1 a2 else (if a0 = 7 then word_pair_srl.f a1 a2 else (if a0 = 8 then word_pair_sra.f a1 a2 else (if a0 = 9 then word_pair_or.f a1 a2 else (if a0 = 10 then word_pair_and.f a1 a2 else (if a0 = 11 then word_pair_mul.f a1 a2 else (if a0 = 12 then word_pair_mulh.f a1 a2 else (if a0 = 13 then word_pair_mulhsu.f a1 a2 else (if a0 = 14 then word_pair_mulhu.f a1 a2 else (if a0 = 15 then word_pair_div.f a1 a2 else (if a0 = 16 then word_pair_divu.f a1 a2 else (if a0 = 17 then word_pair_rem.f a1 a2 else (if a0 = 18 then word_pair_remu.f a1 a2 else (if a0 = 19 then word_pair_addw.f a1 a2 else (if a0 = 20 then word_pair_subw.f a1 a2 else (if a0 = 21 then word_pair_sllw.f a1 a2 else (if a0 = 22 then word_pair_srlw.f a1 a2 else (if a0 = 23 then word_pair_sraw.f a1 a2 else (if a0 = 24 then word_pair_mulw.f a1 a2 else (if a0 = 25 then word_pair_divw.f a1 a2 else (if a0 = 26 then word_pair_divuw.f a1 a2 else (if a0 = 27 then word_pair_remw.f a1 a2 else (if a0 = 28 then word_pair_remuw.f a1 a2 else (some 0))))))))))))))))))))))))))))
theorem word_Alu.neq_fn (f : Fn) (w : World) : (binOp .neq 35 (.func f #[] #[]) .nilFunc).run Try.prog w = .ok (.bool true) w := by kernel_rfl
theorem word_Alu.neq_nil (w : World) : (binOp .neq 35 .nilFunc .nilFunc).run Try.prog w = .ok (.bool false) w := by kernel_rfl
set_option maxHeartbeats 4000000 in
theorem word_operation.at_1 (w : World) : Calls Try.prog 24 #[.int .i64 1] w fun e w' => e = .returned (.func (.func 36) #[] #[]) ∧ w = w' := by
  go_enter Try.func24, Try.ntmps24
  go_wp2
  go_ret
  exact ⟨rfl, rfl⟩
set_option maxHeartbeats 4000000 in
set_option maxRecDepth 100000 in
theorem word_Alu.calls_1 (a1 a2 r : Int) (w : World) (h : word_pair_add.f a1 a2 = some r) :
    Calls Try.prog 15 #[.int .i64 1, .int .u64 a1, .int .u64 a2] w fun e w' => e = .returned (.int .u64 r) ∧ Below w.heap.size w w' := by
  have H := Aside0.mk h
  clear h
  have hn := word_Alu.neq_fn
  go_enter Try.func15, Try.ntmps15
  go_wp2_with (first | (go_at_call 24; refine (word_operation.at_1 _).mono ?_; rintro e w' ⟨rfl, rfl⟩) | (go_at_call 36; refine (word_pair_add.calls _ _ r _ H.out).mono ?_; rintro e w1 ⟨rfl, hb⟩))
  go_ret
  exact ⟨rfl, hb⟩
set_option maxHeartbeats 4000000 in
theorem word_operation.at_2 (w : World) : Calls Try.prog 24 #[.int .i64 2] w fun e w' => e = .returned (.func (.func 37) #[] #[]) ∧ w = w' := by
  go_enter Try.func24, Try.ntmps24
  go_wp2
  go_ret
  exact ⟨rfl, rfl⟩
set_option maxHeartbeats 4000000 in
set_option maxRecDepth 100000 in
theorem word_Alu.calls_2 (a1 a2 r : Int) (w : World) (h : word_pair_sub.f a1 a2 = some r) :
    Calls Try.prog 15 #[.int .i64 2, .int .u64 a1, .int .u64 a2] w fun e w' => e = .returned (.int .u64 r) ∧ Below w.heap.size w w' := by
  have H := Aside0.mk h
  clear h
  have hn := word_Alu.neq_fn
  go_enter Try.func15, Try.ntmps15
  go_wp2_with (first | (go_at_call 24; refine (word_operation.at_2 _).mono ?_; rintro e w' ⟨rfl, rfl⟩) | (go_at_call 37; refine (word_pair_sub.calls _ _ r _ H.out).mono ?_; rintro e w1 ⟨rfl, hb⟩))
  go_ret
  exact ⟨rfl, hb⟩
set_option maxHeartbeats 4000000 in
theorem word_operation.at_3 (w : World) : Calls Try.prog 24 #[.int .i64 3] w fun e w' => e = .returned (.func (.func 38) #[] #[]) ∧ w = w' := by
  go_enter Try.func24, Try.ntmps24
  go_wp2
  go_ret
  exact ⟨rfl, rfl⟩
set_option maxHeartbeats 4000000 in
set_option maxRecDepth 100000 in
theorem word_Alu.calls_3 (a1 a2 r : Int) (w : World) (h : word_pair_sll.f a1 a2 = some r) :
    Calls Try.prog 15 #[.int .i64 3, .int .u64 a1, .int .u64 a2] w fun e w' => e = .returned (.int .u64 r) ∧ Below w.heap.size w w' := by
  have H := Aside0.mk h
  clear h
  have hn := word_Alu.neq_fn
  go_enter Try.func15, Try.ntmps15
  go_wp2_with (first | (go_at_call 24; refine (word_operation.at_3 _).mono ?_; rintro e w' ⟨rfl, rfl⟩) | (go_at_call 38; refine (word_pair_sll.calls _ _ r _ H.out).mono ?_; rintro e w1 ⟨rfl, hb⟩))
  go_ret
  exact ⟨rfl, hb⟩
set_option maxHeartbeats 4000000 in
theorem word_operation.at_4 (w : World) : Calls Try.prog 24 #[.int .i64 4] w fun e w' => e = .returned (.func (.func 39) #[] #[]) ∧ w = w' := by
  go_enter Try.func24, Try.ntmps24
  go_wp2
  go_ret
  exact ⟨rfl, rfl⟩
set_option maxHeartbeats 4000000 in
set_option maxRecDepth 100000 in
theorem word_Alu.calls_4 (a1 a2 r : Int) (w : World) (h : word_pair_slt.f a1 a2 = some r) :
    Calls Try.prog 15 #[.int .i64 4, .int .u64 a1, .int .u64 a2] w fun e w' => e = .returned (.int .u64 r) ∧ Below w.heap.size w w' := by
  have H := Aside0.mk h
  clear h
  have hn := word_Alu.neq_fn
  go_enter Try.func15, Try.ntmps15
  go_wp2_with (first | (go_at_call 24; refine (word_operation.at_4 _).mono ?_; rintro e w' ⟨rfl, rfl⟩) | (go_at_call 39; refine (word_pair_slt.calls _ _ r _ H.out).mono ?_; rintro e w1 ⟨rfl, hb⟩))
  go_ret
  exact ⟨rfl, hb⟩
set_option maxHeartbeats 4000000 in
theorem word_operation.at_5 (w : World) : Calls Try.prog 24 #[.int .i64 5] w fun e w' => e = .returned (.func (.func 40) #[] #[]) ∧ w = w' := by
  go_enter Try.func24, Try.ntmps24
  go_wp2
  go_ret
  exact ⟨rfl, rfl⟩
set_option maxHeartbeats 4000000 in
set_option maxRecDepth 100000 in
theorem word_Alu.calls_5 (a1 a2 r : Int) (w : World) (h : word_pair_sltu.f a1 a2 = some r) :
    Calls Try.prog 15 #[.int .i64 5, .int .u64 a1, .int .u64 a2] w fun e w' => e = .returned (.int .u64 r) ∧ Below w.heap.size w w' := by
  have H := Aside0.mk h
  clear h
  have hn := word_Alu.neq_fn
  go_enter Try.func15, Try.ntmps15
  go_wp2_with (first | (go_at_call 24; refine (word_operation.at_5 _).mono ?_; rintro e w' ⟨rfl, rfl⟩) | (go_at_call 40; refine (word_pair_sltu.calls _ _ r _ H.out).mono ?_; rintro e w1 ⟨rfl, hb⟩))
  go_ret
  exact ⟨rfl, hb⟩
set_option maxHeartbeats 4000000 in
theorem word_operation.at_6 (w : World) : Calls Try.prog 24 #[.int .i64 6] w fun e w' => e = .returned (.func (.func 41) #[] #[]) ∧ w = w' := by
  go_enter Try.func24, Try.ntmps24
  go_wp2
  go_ret
  exact ⟨rfl, rfl⟩
set_option maxHeartbeats 4000000 in
set_option maxRecDepth 100000 in
theorem word_Alu.calls_6 (a1 a2 r : Int) (w : World) (h : word_pair_xor.f a1 a2 = some r) :
    Calls Try.prog 15 #[.int .i64 6, .int .u64 a1, .int .u64 a2] w fun e w' => e = .returned (.int .u64 r) ∧ Below w.heap.size w w' := by
  have H := Aside0.mk h
  clear h
  have hn := word_Alu.neq_fn
  go_enter Try.func15, Try.ntmps15
  go_wp2_with (first | (go_at_call 24; refine (word_operation.at_6 _).mono ?_; rintro e w' ⟨rfl, rfl⟩) | (go_at_call 41; refine (word_pair_xor.calls _ _ r _ H.out).mono ?_; rintro e w1 ⟨rfl, hb⟩))
  go_ret
  exact ⟨rfl, hb⟩
set_option maxHeartbeats 4000000 in
theorem word_operation.at_7 (w : World) : Calls Try.prog 24 #[.int .i64 7] w fun e w' => e = .returned (.func (.func 42) #[] #[]) ∧ w = w' := by
  go_enter Try.func24, Try.ntmps24
  go_wp2
  go_ret
  exact ⟨rfl, rfl⟩
set_option maxHeartbeats 4000000 in
set_option maxRecDepth 100000 in
theorem word_Alu.calls_7 (a1 a2 r : Int) (w : World) (h : word_pair_srl.f a1 a2 = some r) :
    Calls Try.prog 15 #[.int .i64 7, .int .u64 a1, .int .u64 a2] w fun e w' => e = .returned (.int .u64 r) ∧ Below w.heap.size w w' := by
  have H := Aside0.mk h
  clear h
  have hn := word_Alu.neq_fn
  go_enter Try.func15, Try.ntmps15
  go_wp2_with (first | (go_at_call 24; refine (word_operation.at_7 _).mono ?_; rintro e w' ⟨rfl, rfl⟩) | (go_at_call 42; refine (word_pair_srl.calls _ _ r _ H.out).mono ?_; rintro e w1 ⟨rfl, hb⟩))
  go_ret
  exact ⟨rfl, hb⟩
set_option maxHeartbeats 4000000 in
theorem word_operation.at_8 (w : World) : Calls Try.prog 24 #[.int .i64 8] w fun e w' => e = .returned (.func (.func 43) #[] #[]) ∧ w = w' := by
  go_enter Try.func24, Try.ntmps24
  go_wp2
  go_ret
  exact ⟨rfl, rfl⟩
set_option maxHeartbeats 4000000 in
set_option maxRecDepth 100000 in
theorem word_Alu.calls_8 (a1 a2 r : Int) (w : World) (h : word_pair_sra.f a1 a2 = some r) :
    Calls Try.prog 15 #[.int .i64 8, .int .u64 a1, .int .u64 a2] w fun e w' => e = .returned (.int .u64 r) ∧ Below w.heap.size w w' := by
  have H := Aside0.mk h
  clear h
  have hn := word_Alu.neq_fn
  go_enter Try.func15, Try.ntmps15
  go_wp2_with (first | (go_at_call 24; refine (word_operation.at_8 _).mono ?_; rintro e w' ⟨rfl, rfl⟩) | (go_at_call 43; refine (word_pair_sra.calls _ _ r _ H.out).mono ?_; rintro e w1 ⟨rfl, hb⟩))
  go_ret
  exact ⟨rfl, hb⟩
set_option maxHeartbeats 4000000 in
theorem word_operation.at_9 (w : World) : Calls Try.prog 24 #[.int .i64 9] w fun e w' => e = .returned (.func (.func 44) #[] #[]) ∧ w = w' := by
  go_enter Try.func24, Try.ntmps24
  go_wp2
  go_ret
  exact ⟨rfl, rfl⟩
set_option maxHeartbeats 4000000 in
set_option maxRecDepth 100000 in
theorem word_Alu.calls_9 (a1 a2 r : Int) (w : World) (h : word_pair_or.f a1 a2 = some r) :
    Calls Try.prog 15 #[.int .i64 9, .int .u64 a1, .int .u64 a2] w fun e w' => e = .returned (.int .u64 r) ∧ Below w.heap.size w w' := by
  have H := Aside0.mk h
  clear h
  have hn := word_Alu.neq_fn
  go_enter Try.func15, Try.ntmps15
  go_wp2_with (first | (go_at_call 24; refine (word_operation.at_9 _).mono ?_; rintro e w' ⟨rfl, rfl⟩) | (go_at_call 44; refine (word_pair_or.calls _ _ r _ H.out).mono ?_; rintro e w1 ⟨rfl, hb⟩))
  go_ret
  exact ⟨rfl, hb⟩
set_option maxHeartbeats 4000000 in
theorem word_operation.at_10 (w : World) : Calls Try.prog 24 #[.int .i64 10] w fun e w' => e = .returned (.func (.func 45) #[] #[]) ∧ w = w' := by
  go_enter Try.func24, Try.ntmps24
  go_wp2
  go_ret
  exact ⟨rfl, rfl⟩
set_option maxHeartbeats 4000000 in
set_option maxRecDepth 100000 in
theorem word_Alu.calls_10 (a1 a2 r : Int) (w : World) (h : word_pair_and.f a1 a2 = some r) :
    Calls Try.prog 15 #[.int .i64 10, .int .u64 a1, .int .u64 a2] w fun e w' => e = .returned (.int .u64 r) ∧ Below w.heap.size w w' := by
  have H := Aside0.mk h
  clear h
  have hn := word_Alu.neq_fn
  go_enter Try.func15, Try.ntmps15
  go_wp2_with (first | (go_at_call 24; refine (word_operation.at_10 _).mono ?_; rintro e w' ⟨rfl, rfl⟩) | (go_at_call 45; refine (word_pair_and.calls _ _ r _ H.out).mono ?_; rintro e w1 ⟨rfl, hb⟩))
  go_ret
  exact ⟨rfl, hb⟩
set_option maxHeartbeats 4000000 in
theorem word_operation.at_11 (w : World) : Calls Try.prog 24 #[.int .i64 11] w fun e w' => e = .returned (.func (.func 46) #[] #[]) ∧ w = w' := by
  go_enter Try.func24, Try.ntmps24
  go_wp2
  go_ret
  exact ⟨rfl, rfl⟩
set_option maxHeartbeats 4000000 in
set_option maxRecDepth 100000 in
theorem word_Alu.calls_11 (a1 a2 r : Int) (w : World) (h : word_pair_mul.f a1 a2 = some r) :
    Calls Try.prog 15 #[.int .i64 11, .int .u64 a1, .int .u64 a2] w fun e w' => e = .returned (.int .u64 r) ∧ Below w.heap.size w w' := by
  have H := Aside0.mk h
  clear h
  have hn := word_Alu.neq_fn
  go_enter Try.func15, Try.ntmps15
  go_wp2_with (first | (go_at_call 24; refine (word_operation.at_11 _).mono ?_; rintro e w' ⟨rfl, rfl⟩) | (go_at_call 46; refine (word_pair_mul.calls _ _ r _ H.out).mono ?_; rintro e w1 ⟨rfl, hb⟩))
  go_ret
  exact ⟨rfl, hb⟩
set_option maxHeartbeats 4000000 in
theorem word_operation.at_12 (w : World) : Calls Try.prog 24 #[.int .i64 12] w fun e w' => e = .returned (.func (.func 47) #[] #[]) ∧ w = w' := by
  go_enter Try.func24, Try.ntmps24
  go_wp2
  go_ret
  exact ⟨rfl, rfl⟩
set_option maxHeartbeats 4000000 in
set_option maxRecDepth 100000 in
theorem word_Alu.calls_12 (a1 a2 r : Int) (w : World) (h : word_pair_mulh.f a1 a2 = some r) :
    Calls Try.prog 15 #[.int .i64 12, .int .u64 a1, .int .u64 a2] w fun e w' => e = .returned (.int .u64 r) ∧ Below w.heap.size w w' := by
  have H := Aside0.mk h
  clear h
  have hn := word_Alu.neq_fn
  go_enter Try.func15, Try.ntmps15
  go_wp2_with (first | (go_at_call 24; refine (word_operation.at_12 _).mono ?_; rintro e w' ⟨rfl, rfl⟩) | (go_at_call 47; refine (word_pair_mulh.calls _ _ r _ H.out).mono ?_; rintro e w1 ⟨rfl, hb⟩))
  go_ret
  exact ⟨rfl, hb⟩
set_option maxHeartbeats 4000000 in
theorem word_operation.at_13 (w : World) : Calls Try.prog 24 #[.int .i64 13] w fun e w' => e = .returned (.func (.func 48) #[] #[]) ∧ w = w' := by
  go_enter Try.func24, Try.ntmps24
  go_wp2
  go_ret
  exact ⟨rfl, rfl⟩
set_option maxHeartbeats 4000000 in
set_option maxRecDepth 100000 in
theorem word_Alu.calls_13 (a1 a2 r : Int) (w : World) (h : word_pair_mulhsu.f a1 a2 = some r) :
    Calls Try.prog 15 #[.int .i64 13, .int .u64 a1, .int .u64 a2] w fun e w' => e = .returned (.int .u64 r) ∧ Below w.heap.size w w' := by
  have H := Aside0.mk h
  clear h
  have hn := word_Alu.neq_fn
  go_enter Try.func15, Try.ntmps15
  go_wp2_with (first | (go_at_call 24; refine (word_operation.at_13 _).mono ?_; rintro e w' ⟨rfl, rfl⟩) | (go_at_call 48; refine (word_pair_mulhsu.calls _ _ r _ H.out).mono ?_; rintro e w1 ⟨rfl, hb⟩))
  go_ret
  exact ⟨rfl, hb⟩
set_option maxHeartbeats 4000000 in
theorem word_operation.at_14 (w : World) : Calls Try.prog 24 #[.int .i64 14] w fun e w' => e = .returned (.func (.func 49) #[] #[]) ∧ w = w' := by
  go_enter Try.func24, Try.ntmps24
  go_wp2
  go_ret
  exact ⟨rfl, rfl⟩
set_option maxHeartbeats 4000000 in
set_option maxRecDepth 100000 in
theorem word_Alu.calls_14 (a1 a2 r : Int) (w : World) (h : word_pair_mulhu.f a1 a2 = some r) :
    Calls Try.prog 15 #[.int .i64 14, .int .u64 a1, .int .u64 a2] w fun e w' => e = .returned (.int .u64 r) ∧ Below w.heap.size w w' := by
  have H := Aside0.mk h
  clear h
  have hn := word_Alu.neq_fn
  go_enter Try.func15, Try.ntmps15
  go_wp2_with (first | (go_at_call 24; refine (word_operation.at_14 _).mono ?_; rintro e w' ⟨rfl, rfl⟩) | (go_at_call 49; refine (word_pair_mulhu.calls _ _ r _ H.out).mono ?_; rintro e w1 ⟨rfl, hb⟩))
  go_ret
  exact ⟨rfl, hb⟩
set_option maxHeartbeats 4000000 in
theorem word_operation.at_15 (w : World) : Calls Try.prog 24 #[.int .i64 15] w fun e w' => e = .returned (.func (.func 50) #[] #[]) ∧ w = w' := by
  go_enter Try.func24, Try.ntmps24
  go_wp2
  go_ret
  exact ⟨rfl, rfl⟩
set_option maxHeartbeats 4000000 in
set_option maxRecDepth 100000 in
theorem word_Alu.calls_15 (a1 a2 r : Int) (w : World) (h : word_pair_div.f a1 a2 = some r) :
    Calls Try.prog 15 #[.int .i64 15, .int .u64 a1, .int .u64 a2] w fun e w' => e = .returned (.int .u64 r) ∧ Below w.heap.size w w' := by
  have H := Aside0.mk h
  clear h
  have hn := word_Alu.neq_fn
  go_enter Try.func15, Try.ntmps15
  go_wp2_with (first | (go_at_call 24; refine (word_operation.at_15 _).mono ?_; rintro e w' ⟨rfl, rfl⟩) | (go_at_call 50; refine (word_pair_div.calls _ _ r _ H.out).mono ?_; rintro e w1 ⟨rfl, hb⟩))
  go_ret
  exact ⟨rfl, hb⟩
set_option maxHeartbeats 4000000 in
theorem word_operation.at_16 (w : World) : Calls Try.prog 24 #[.int .i64 16] w fun e w' => e = .returned (.func (.func 51) #[] #[]) ∧ w = w' := by
  go_enter Try.func24, Try.ntmps24
  go_wp2
  go_ret
  exact ⟨rfl, rfl⟩
set_option maxHeartbeats 4000000 in
set_option maxRecDepth 100000 in
theorem word_Alu.calls_16 (a1 a2 r : Int) (w : World) (h : word_pair_divu.f a1 a2 = some r) :
    Calls Try.prog 15 #[.int .i64 16, .int .u64 a1, .int .u64 a2] w fun e w' => e = .returned (.int .u64 r) ∧ Below w.heap.size w w' := by
  have H := Aside0.mk h
  clear h
  have hn := word_Alu.neq_fn
  go_enter Try.func15, Try.ntmps15
  go_wp2_with (first | (go_at_call 24; refine (word_operation.at_16 _).mono ?_; rintro e w' ⟨rfl, rfl⟩) | (go_at_call 51; refine (word_pair_divu.calls _ _ r _ H.out).mono ?_; rintro e w1 ⟨rfl, hb⟩))
  go_ret
  exact ⟨rfl, hb⟩
set_option maxHeartbeats 4000000 in
theorem word_operation.at_17 (w : World) : Calls Try.prog 24 #[.int .i64 17] w fun e w' => e = .returned (.func (.func 52) #[] #[]) ∧ w = w' := by
  go_enter Try.func24, Try.ntmps24
  go_wp2
  go_ret
  exact ⟨rfl, rfl⟩
set_option maxHeartbeats 4000000 in
set_option maxRecDepth 100000 in
theorem word_Alu.calls_17 (a1 a2 r : Int) (w : World) (h : word_pair_rem.f a1 a2 = some r) :
    Calls Try.prog 15 #[.int .i64 17, .int .u64 a1, .int .u64 a2] w fun e w' => e = .returned (.int .u64 r) ∧ Below w.heap.size w w' := by
  have H := Aside0.mk h
  clear h
  have hn := word_Alu.neq_fn
  go_enter Try.func15, Try.ntmps15
  go_wp2_with (first | (go_at_call 24; refine (word_operation.at_17 _).mono ?_; rintro e w' ⟨rfl, rfl⟩) | (go_at_call 52; refine (word_pair_rem.calls _ _ r _ H.out).mono ?_; rintro e w1 ⟨rfl, hb⟩))
  go_ret
  exact ⟨rfl, hb⟩
set_option maxHeartbeats 4000000 in
theorem word_operation.at_18 (w : World) : Calls Try.prog 24 #[.int .i64 18] w fun e w' => e = .returned (.func (.func 53) #[] #[]) ∧ w = w' := by
  go_enter Try.func24, Try.ntmps24
  go_wp2
  go_ret
  exact ⟨rfl, rfl⟩
set_option maxHeartbeats 4000000 in
set_option maxRecDepth 100000 in
theorem word_Alu.calls_18 (a1 a2 r : Int) (w : World) (h : word_pair_remu.f a1 a2 = some r) :
    Calls Try.prog 15 #[.int .i64 18, .int .u64 a1, .int .u64 a2] w fun e w' => e = .returned (.int .u64 r) ∧ Below w.heap.size w w' := by
  have H := Aside0.mk h
  clear h
  have hn := word_Alu.neq_fn
  go_enter Try.func15, Try.ntmps15
  go_wp2_with (first | (go_at_call 24; refine (word_operation.at_18 _).mono ?_; rintro e w' ⟨rfl, rfl⟩) | (go_at_call 53; refine (word_pair_remu.calls _ _ r _ H.out).mono ?_; rintro e w1 ⟨rfl, hb⟩))
  go_ret
  exact ⟨rfl, hb⟩
theorem word_narrow.at_19 (w : World) : Calls Try.prog 54 #[.int .i64 19] w fun e w' => e = .returned (.func (.func 59) #[] #[]) ∧ w = w' := by
  go_enter Try.func54, Try.ntmps54
  go_wp2
  go_ret
  exact ⟨rfl, rfl⟩
set_option maxHeartbeats 4000000 in
theorem word_operation.at_19 (w : World) : Calls Try.prog 24 #[.int .i64 19] w fun e w' => e = .returned (.func (.func 59) #[] #[]) ∧ w = w' := by
  go_enter Try.func24, Try.ntmps24
  go_wp2_with (go_at_call 54; refine (word_narrow.at_19 _).mono ?_; rintro e w' ⟨rfl, rfl⟩)
  go_ret
  exact ⟨rfl, rfl⟩
set_option maxHeartbeats 4000000 in
set_option maxRecDepth 100000 in
theorem word_Alu.calls_19 (a1 a2 r : Int) (w : World) (h : word_pair_addw.f a1 a2 = some r) :
    Calls Try.prog 15 #[.int .i64 19, .int .u64 a1, .int .u64 a2] w fun e w' => e = .returned (.int .u64 r) ∧ Below w.heap.size w w' := by
  have H := Aside0.mk h
  clear h
  have hn := word_Alu.neq_fn
  go_enter Try.func15, Try.ntmps15
  go_wp2_with (first | (go_at_call 24; refine (word_operation.at_19 _).mono ?_; rintro e w' ⟨rfl, rfl⟩) | (go_at_call 59; refine (word_pair_addw.calls _ _ r _ H.out).mono ?_; rintro e w1 ⟨rfl, hb⟩))
  go_ret
  exact ⟨rfl, hb⟩
theorem word_narrow.at_20 (w : World) : Calls Try.prog 54 #[.int .i64 20] w fun e w' => e = .returned (.func (.func 60) #[] #[]) ∧ w = w' := by
  go_enter Try.func54, Try.ntmps54
  go_wp2
  go_ret
  exact ⟨rfl, rfl⟩
set_option maxHeartbeats 4000000 in
theorem word_operation.at_20 (w : World) : Calls Try.prog 24 #[.int .i64 20] w fun e w' => e = .returned (.func (.func 60) #[] #[]) ∧ w = w' := by
  go_enter Try.func24, Try.ntmps24
  go_wp2_with (go_at_call 54; refine (word_narrow.at_20 _).mono ?_; rintro e w' ⟨rfl, rfl⟩)
  go_ret
  exact ⟨rfl, rfl⟩
set_option maxHeartbeats 4000000 in
set_option maxRecDepth 100000 in
theorem word_Alu.calls_20 (a1 a2 r : Int) (w : World) (h : word_pair_subw.f a1 a2 = some r) :
    Calls Try.prog 15 #[.int .i64 20, .int .u64 a1, .int .u64 a2] w fun e w' => e = .returned (.int .u64 r) ∧ Below w.heap.size w w' := by
  have H := Aside0.mk h
  clear h
  have hn := word_Alu.neq_fn
  go_enter Try.func15, Try.ntmps15
  go_wp2_with (first | (go_at_call 24; refine (word_operation.at_20 _).mono ?_; rintro e w' ⟨rfl, rfl⟩) | (go_at_call 60; refine (word_pair_subw.calls _ _ r _ H.out).mono ?_; rintro e w1 ⟨rfl, hb⟩))
  go_ret
  exact ⟨rfl, hb⟩
theorem word_narrow.at_21 (w : World) : Calls Try.prog 54 #[.int .i64 21] w fun e w' => e = .returned (.func (.func 61) #[] #[]) ∧ w = w' := by
  go_enter Try.func54, Try.ntmps54
  go_wp2
  go_ret
  exact ⟨rfl, rfl⟩
set_option maxHeartbeats 4000000 in
theorem word_operation.at_21 (w : World) : Calls Try.prog 24 #[.int .i64 21] w fun e w' => e = .returned (.func (.func 61) #[] #[]) ∧ w = w' := by
  go_enter Try.func24, Try.ntmps24
  go_wp2_with (go_at_call 54; refine (word_narrow.at_21 _).mono ?_; rintro e w' ⟨rfl, rfl⟩)
  go_ret
  exact ⟨rfl, rfl⟩
set_option maxHeartbeats 4000000 in
set_option maxRecDepth 100000 in
theorem word_Alu.calls_21 (a1 a2 r : Int) (w : World) (h : word_pair_sllw.f a1 a2 = some r) :
    Calls Try.prog 15 #[.int .i64 21, .int .u64 a1, .int .u64 a2] w fun e w' => e = .returned (.int .u64 r) ∧ Below w.heap.size w w' := by
  have H := Aside0.mk h
  clear h
  have hn := word_Alu.neq_fn
  go_enter Try.func15, Try.ntmps15
  go_wp2_with (first | (go_at_call 24; refine (word_operation.at_21 _).mono ?_; rintro e w' ⟨rfl, rfl⟩) | (go_at_call 61; refine (word_pair_sllw.calls _ _ r _ H.out).mono ?_; rintro e w1 ⟨rfl, hb⟩))
  go_ret
  exact ⟨rfl, hb⟩
theorem word_narrow.at_22 (w : World) : Calls Try.prog 54 #[.int .i64 22] w fun e w' => e = .returned (.func (.func 62) #[] #[]) ∧ w = w' := by
  go_enter Try.func54, Try.ntmps54
  go_wp2
  go_ret
  exact ⟨rfl, rfl⟩
set_option maxHeartbeats 4000000 in
theorem word_operation.at_22 (w : World) : Calls Try.prog 24 #[.int .i64 22] w fun e w' => e = .returned (.func (.func 62) #[] #[]) ∧ w = w' := by
  go_enter Try.func24, Try.ntmps24
  go_wp2_with (go_at_call 54; refine (word_narrow.at_22 _).mono ?_; rintro e w' ⟨rfl, rfl⟩)
  go_ret
  exact ⟨rfl, rfl⟩
set_option maxHeartbeats 4000000 in
set_option maxRecDepth 100000 in
theorem word_Alu.calls_22 (a1 a2 r : Int) (w : World) (h : word_pair_srlw.f a1 a2 = some r) :
    Calls Try.prog 15 #[.int .i64 22, .int .u64 a1, .int .u64 a2] w fun e w' => e = .returned (.int .u64 r) ∧ Below w.heap.size w w' := by
  have H := Aside0.mk h
  clear h
  have hn := word_Alu.neq_fn
  go_enter Try.func15, Try.ntmps15
  go_wp2_with (first | (go_at_call 24; refine (word_operation.at_22 _).mono ?_; rintro e w' ⟨rfl, rfl⟩) | (go_at_call 62; refine (word_pair_srlw.calls _ _ r _ H.out).mono ?_; rintro e w1 ⟨rfl, hb⟩))
  go_ret
  exact ⟨rfl, hb⟩
theorem word_narrow.at_23 (w : World) : Calls Try.prog 54 #[.int .i64 23] w fun e w' => e = .returned (.func (.func 63) #[] #[]) ∧ w = w' := by
  go_enter Try.func54, Try.ntmps54
  go_wp2
  go_ret
  exact ⟨rfl, rfl⟩
set_option maxHeartbeats 4000000 in
theorem word_operation.at_23 (w : World) : Calls Try.prog 24 #[.int .i64 23] w fun e w' => e = .returned (.func (.func 63) #[] #[]) ∧ w = w' := by
  go_enter Try.func24, Try.ntmps24
  go_wp2_with (go_at_call 54; refine (word_narrow.at_23 _).mono ?_; rintro e w' ⟨rfl, rfl⟩)
  go_ret
  exact ⟨rfl, rfl⟩
set_option maxHeartbeats 4000000 in
set_option maxRecDepth 100000 in
theorem word_Alu.calls_23 (a1 a2 r : Int) (w : World) (h : word_pair_sraw.f a1 a2 = some r) :
    Calls Try.prog 15 #[.int .i64 23, .int .u64 a1, .int .u64 a2] w fun e w' => e = .returned (.int .u64 r) ∧ Below w.heap.size w w' := by
  have H := Aside0.mk h
  clear h
  have hn := word_Alu.neq_fn
  go_enter Try.func15, Try.ntmps15
  go_wp2_with (first | (go_at_call 24; refine (word_operation.at_23 _).mono ?_; rintro e w' ⟨rfl, rfl⟩) | (go_at_call 63; refine (word_pair_sraw.calls _ _ r _ H.out).mono ?_; rintro e w1 ⟨rfl, hb⟩))
  go_ret
  exact ⟨rfl, hb⟩
theorem word_narrow.at_24 (w : World) : Calls Try.prog 54 #[.int .i64 24] w fun e w' => e = .returned (.func (.func 64) #[] #[]) ∧ w = w' := by
  go_enter Try.func54, Try.ntmps54
  go_wp2
  go_ret
  exact ⟨rfl, rfl⟩
set_option maxHeartbeats 4000000 in
theorem word_operation.at_24 (w : World) : Calls Try.prog 24 #[.int .i64 24] w fun e w' => e = .returned (.func (.func 64) #[] #[]) ∧ w = w' := by
  go_enter Try.func24, Try.ntmps24
  go_wp2_with (go_at_call 54; refine (word_narrow.at_24 _).mono ?_; rintro e w' ⟨rfl, rfl⟩)
  go_ret
  exact ⟨rfl, rfl⟩
set_option maxHeartbeats 4000000 in
set_option maxRecDepth 100000 in
theorem word_Alu.calls_24 (a1 a2 r : Int) (w : World) (h : word_pair_mulw.f a1 a2 = some r) :
    Calls Try.prog 15 #[.int .i64 24, .int .u64 a1, .int .u64 a2] w fun e w' => e = .returned (.int .u64 r) ∧ Below w.heap.size w w' := by
  have H := Aside0.mk h
  clear h
  have hn := word_Alu.neq_fn
  go_enter Try.func15, Try.ntmps15
  go_wp2_with (first | (go_at_call 24; refine (word_operation.at_24 _).mono ?_; rintro e w' ⟨rfl, rfl⟩) | (go_at_call 64; refine (word_pair_mulw.calls _ _ r _ H.out).mono ?_; rintro e w1 ⟨rfl, hb⟩))
  go_ret
  exact ⟨rfl, hb⟩
theorem word_narrow.at_25 (w : World) : Calls Try.prog 54 #[.int .i64 25] w fun e w' => e = .returned (.func (.func 65) #[] #[]) ∧ w = w' := by
  go_enter Try.func54, Try.ntmps54
  go_wp2
  go_ret
  exact ⟨rfl, rfl⟩
set_option maxHeartbeats 4000000 in
theorem word_operation.at_25 (w : World) : Calls Try.prog 24 #[.int .i64 25] w fun e w' => e = .returned (.func (.func 65) #[] #[]) ∧ w = w' := by
  go_enter Try.func24, Try.ntmps24
  go_wp2_with (go_at_call 54; refine (word_narrow.at_25 _).mono ?_; rintro e w' ⟨rfl, rfl⟩)
  go_ret
  exact ⟨rfl, rfl⟩
set_option maxHeartbeats 4000000 in
set_option maxRecDepth 100000 in
theorem word_Alu.calls_25 (a1 a2 r : Int) (w : World) (h : word_pair_divw.f a1 a2 = some r) :
    Calls Try.prog 15 #[.int .i64 25, .int .u64 a1, .int .u64 a2] w fun e w' => e = .returned (.int .u64 r) ∧ Below w.heap.size w w' := by
  have H := Aside0.mk h
  clear h
  have hn := word_Alu.neq_fn
  go_enter Try.func15, Try.ntmps15
  go_wp2_with (first | (go_at_call 24; refine (word_operation.at_25 _).mono ?_; rintro e w' ⟨rfl, rfl⟩) | (go_at_call 65; refine (word_pair_divw.calls _ _ r _ H.out).mono ?_; rintro e w1 ⟨rfl, hb⟩))
  go_ret
  exact ⟨rfl, hb⟩
theorem word_narrow.at_26 (w : World) : Calls Try.prog 54 #[.int .i64 26] w fun e w' => e = .returned (.func (.func 66) #[] #[]) ∧ w = w' := by
  go_enter Try.func54, Try.ntmps54
  go_wp2
  go_ret
  exact ⟨rfl, rfl⟩
set_option maxHeartbeats 4000000 in
theorem word_operation.at_26 (w : World) : Calls Try.prog 24 #[.int .i64 26] w fun e w' => e = .returned (.func (.func 66) #[] #[]) ∧ w = w' := by
  go_enter Try.func24, Try.ntmps24
  go_wp2_with (go_at_call 54; refine (word_narrow.at_26 _).mono ?_; rintro e w' ⟨rfl, rfl⟩)
  go_ret
  exact ⟨rfl, rfl⟩
set_option maxHeartbeats 4000000 in
set_option maxRecDepth 100000 in
theorem word_Alu.calls_26 (a1 a2 r : Int) (w : World) (h : word_pair_divuw.f a1 a2 = some r) :
    Calls Try.prog 15 #[.int .i64 26, .int .u64 a1, .int .u64 a2] w fun e w' => e = .returned (.int .u64 r) ∧ Below w.heap.size w w' := by
  have H := Aside0.mk h
  clear h
  have hn := word_Alu.neq_fn
  go_enter Try.func15, Try.ntmps15
  go_wp2_with (first | (go_at_call 24; refine (word_operation.at_26 _).mono ?_; rintro e w' ⟨rfl, rfl⟩) | (go_at_call 66; refine (word_pair_divuw.calls _ _ r _ H.out).mono ?_; rintro e w1 ⟨rfl, hb⟩))
  go_ret
  exact ⟨rfl, hb⟩
theorem word_narrow.at_27 (w : World) : Calls Try.prog 54 #[.int .i64 27] w fun e w' => e = .returned (.func (.func 67) #[] #[]) ∧ w = w' := by
  go_enter Try.func54, Try.ntmps54
  go_wp2
  go_ret
  exact ⟨rfl, rfl⟩
set_option maxHeartbeats 4000000 in
theorem word_operation.at_27 (w : World) : Calls Try.prog 24 #[.int .i64 27] w fun e w' => e = .returned (.func (.func 67) #[] #[]) ∧ w = w' := by
  go_enter Try.func24, Try.ntmps24
  go_wp2_with (go_at_call 54; refine (word_narrow.at_27 _).mono ?_; rintro e w' ⟨rfl, rfl⟩)
  go_ret
  exact ⟨rfl, rfl⟩
set_option maxHeartbeats 4000000 in
set_option maxRecDepth 100000 in
theorem word_Alu.calls_27 (a1 a2 r : Int) (w : World) (h : word_pair_remw.f a1 a2 = some r) :
    Calls Try.prog 15 #[.int .i64 27, .int .u64 a1, .int .u64 a2] w fun e w' => e = .returned (.int .u64 r) ∧ Below w.heap.size w w' := by
  have H := Aside0.mk h
  clear h
  have hn := word_Alu.neq_fn
  go_enter Try.func15, Try.ntmps15
  go_wp2_with (first | (go_at_call 24; refine (word_operation.at_27 _).mono ?_; rintro e w' ⟨rfl, rfl⟩) | (go_at_call 67; refine (word_pair_remw.calls _ _ r _ H.out).mono ?_; rintro e w1 ⟨rfl, hb⟩))
  go_ret
  exact ⟨rfl, hb⟩
theorem word_narrow.at_28 (w : World) : Calls Try.prog 54 #[.int .i64 28] w fun e w' => e = .returned (.func (.func 68) #[] #[]) ∧ w = w' := by
  go_enter Try.func54, Try.ntmps54
  go_wp2
  go_ret
  exact ⟨rfl, rfl⟩
set_option maxHeartbeats 4000000 in
theorem word_operation.at_28 (w : World) : Calls Try.prog 24 #[.int .i64 28] w fun e w' => e = .returned (.func (.func 68) #[] #[]) ∧ w = w' := by
  go_enter Try.func24, Try.ntmps24
  go_wp2_with (go_at_call 54; refine (word_narrow.at_28 _).mono ?_; rintro e w' ⟨rfl, rfl⟩)
  go_ret
  exact ⟨rfl, rfl⟩
set_option maxHeartbeats 4000000 in
set_option maxRecDepth 100000 in
theorem word_Alu.calls_28 (a1 a2 r : Int) (w : World) (h : word_pair_remuw.f a1 a2 = some r) :
    Calls Try.prog 15 #[.int .i64 28, .int .u64 a1, .int .u64 a2] w fun e w' => e = .returned (.int .u64 r) ∧ Below w.heap.size w w' := by
  have H := Aside0.mk h
  clear h
  have hn := word_Alu.neq_fn
  go_enter Try.func15, Try.ntmps15
  go_wp2_with (first | (go_at_call 24; refine (word_operation.at_28 _).mono ?_; rintro e w' ⟨rfl, rfl⟩) | (go_at_call 68; refine (word_pair_remuw.calls _ _ r _ H.out).mono ?_; rintro e w1 ⟨rfl, hb⟩))
  go_ret
  exact ⟨rfl, hb⟩
set_option maxHeartbeats 4000000 in
theorem word_narrow.none_of (a0 : Int) (h19 : (a0 == 19) = false) (h20 : (a0 == 20) = false) (h21 : (a0 == 21) = false) (h22 : (a0 == 22) = false) (h23 : (a0 == 23) = false) (h24 : (a0 == 24) = false) (h25 : (a0 == 25) = false) (h26 : (a0 == 26) = false) (h27 : (a0 == 27) = false) (h28 : (a0 == 28) = false) (w : World) : Calls Try.prog 54 #[.int .i64 a0] w fun e w' => e = .returned .nilFunc ∧ w = w' := by
  go_enter Try.func54, Try.ntmps54
  go_wp2
  go_ret
  exact ⟨rfl, rfl⟩
set_option maxHeartbeats 4000000 in
theorem word_operation.none_of (a0 : Int) (h1 : (a0 == 1) = false) (h2 : (a0 == 2) = false) (h3 : (a0 == 3) = false) (h4 : (a0 == 4) = false) (h5 : (a0 == 5) = false) (h6 : (a0 == 6) = false) (h7 : (a0 == 7) = false) (h8 : (a0 == 8) = false) (h9 : (a0 == 9) = false) (h10 : (a0 == 10) = false) (h11 : (a0 == 11) = false) (h12 : (a0 == 12) = false) (h13 : (a0 == 13) = false) (h14 : (a0 == 14) = false) (h15 : (a0 == 15) = false) (h16 : (a0 == 16) = false) (h17 : (a0 == 17) = false) (h18 : (a0 == 18) = false) (h19 : (a0 == 19) = false) (h20 : (a0 == 20) = false) (h21 : (a0 == 21) = false) (h22 : (a0 == 22) = false) (h23 : (a0 == 23) = false) (h24 : (a0 == 24) = false) (h25 : (a0 == 25) = false) (h26 : (a0 == 26) = false) (h27 : (a0 == 27) = false) (h28 : (a0 == 28) = false) (w : World) : Calls Try.prog 24 #[.int .i64 a0] w fun e w' => e = .returned .nilFunc ∧ w = w' := by
  have HN := fun w => Aside0.mk (word_narrow.none_of a0 h19 h20 h21 h22 h23 h24 h25 h26 h27 h28 w)
  go_enter Try.func24, Try.ntmps24
  go_wp2_with (go_at_call 54; refine (HN _).out.mono ?_; rintro e w' ⟨rfl, rfl⟩)
  go_ret
  exact ⟨rfl, rfl⟩
set_option maxHeartbeats 4000000 in
theorem word_Alu.none_of (a0 : Int) (h1 : (a0 == 1) = false) (h2 : (a0 == 2) = false) (h3 : (a0 == 3) = false) (h4 : (a0 == 4) = false) (h5 : (a0 == 5) = false) (h6 : (a0 == 6) = false) (h7 : (a0 == 7) = false) (h8 : (a0 == 8) = false) (h9 : (a0 == 9) = false) (h10 : (a0 == 10) = false) (h11 : (a0 == 11) = false) (h12 : (a0 == 12) = false) (h13 : (a0 == 13) = false) (h14 : (a0 == 14) = false) (h15 : (a0 == 15) = false) (h16 : (a0 == 16) = false) (h17 : (a0 == 17) = false) (h18 : (a0 == 18) = false) (h19 : (a0 == 19) = false) (h20 : (a0 == 20) = false) (h21 : (a0 == 21) = false) (h22 : (a0 == 22) = false) (h23 : (a0 == 23) = false) (h24 : (a0 == 24) = false) (h25 : (a0 == 25) = false) (h26 : (a0 == 26) = false) (h27 : (a0 == 27) = false) (h28 : (a0 == 28) = false) (a1 a2 : Int) (w : World) :
    Calls Try.prog 15 #[.int .i64 a0, .int .u64 a1, .int .u64 a2] w fun e w' => e = .returned (.int .u64 0) ∧ Below w.heap.size w w' := by
  have HN := fun w => Aside0.mk (word_operation.none_of a0 h1 h2 h3 h4 h5 h6 h7 h8 h9 h10 h11 h12 h13 h14 h15 h16 h17 h18 h19 h20 h21 h22 h23 h24 h25 h26 h27 h28 w)
  clear h1 h2 h3 h4 h5 h6 h7 h8 h9 h10 h11 h12 h13 h14 h15 h16 h17 h18 h19 h20 h21 h22 h23 h24 h25 h26 h27 h28
  have hn := word_Alu.neq_nil
  go_enter Try.func15, Try.ntmps15
  go_wp2_with (go_at_call 24; refine (HN _).out.mono ?_; rintro e w' ⟨rfl, rfl⟩)
  go_ret
  exact ⟨rfl, Below.refl _ _⟩
theorem word_Alu.calls (a0 : Int) (a1 : Int) (a2 : Int) (r : Int) (w : World) (h : word_Alu.f a0 a1 a2 = some r) :
    Calls Try.prog 15 #[.int .i64 a0, .int .u64 a1, .int .u64 a2] w fun e w' => e = .returned (.int .u64 r) ∧ Below w.heap.size w w' := by
  unfold word_Alu.f at h
  by_cases h1 : a0 = 1
  · subst h1; rw [if_pos rfl] at h; exact word_Alu.calls_1 a1 a2 r w h
  rw [if_neg h1] at h
  by_cases h2 : a0 = 2
  · subst h2; rw [if_pos rfl] at h; exact word_Alu.calls_2 a1 a2 r w h
  rw [if_neg h2] at h
  by_cases h3 : a0 = 3
  · subst h3; rw [if_pos rfl] at h; exact word_Alu.calls_3 a1 a2 r w h
  rw [if_neg h3] at h
  by_cases h4 : a0 = 4
  · subst h4; rw [if_pos rfl] at h; exact word_Alu.calls_4 a1 a2 r w h
  rw [if_neg h4] at h
  by_cases h5 : a0 = 5
  · subst h5; rw [if_pos rfl] at h; exact word_Alu.calls_5 a1 a2 r w h
  rw [if_neg h5] at h
  by_cases h6 : a0 = 6
  · subst h6; rw [if_pos rfl] at h; exact word_Alu.calls_6 a1 a2 r w h
  rw [if_neg h6] at h
  by_cases h7 : a0 = 7
  · subst h7; rw [if_pos rfl] at h; exact word_Alu.calls_7 a1 a2 r w h
  rw [if_neg h7] at h
  by_cases h8 : a0 = 8
  · subst h8; rw [if_pos rfl] at h; exact word_Alu.calls_8 a1 a2 r w h
  rw [if_neg h8] at h
  by_cases h9 : a0 = 9
  · subst h9; rw [if_pos rfl] at h; exact word_Alu.calls_9 a1 a2 r w h
  rw [if_neg h9] at h
  by_cases h10 : a0 = 10
  · subst h10; rw [if_pos rfl] at h; exact word_Alu.calls_10 a1 a2 r w h
  rw [if_neg h10] at h
  by_cases h11 : a0 = 11
  · subst h11; rw [if_pos rfl] at h; exact word_Alu.calls_11 a1 a2 r w h
  rw [if_neg h11] at h
  by_cases h12 : a0 = 12
  · subst h12; rw [if_pos rfl] at h; exact word_Alu.calls_12 a1 a2 r w h
  rw [if_neg h12] at h
  by_cases h13 : a0 = 13
  · subst h13; rw [if_pos rfl] at h; exact word_Alu.calls_13 a1 a2 r w h
  rw [if_neg h13] at h
  by_cases h14 : a0 = 14
  · subst h14; rw [if_pos rfl] at h; exact word_Alu.calls_14 a1 a2 r w h
  rw [if_neg h14] at h
  by_cases h15 : a0 = 15
  · subst h15; rw [if_pos rfl] at h; exact word_Alu.calls_15 a1 a2 r w h
  rw [if_neg h15] at h
  by_cases h16 : a0 = 16
  · subst h16; rw [if_pos rfl] at h; exact word_Alu.calls_16 a1 a2 r w h
  rw [if_neg h16] at h
  by_cases h17 : a0 = 17
  · subst h17; rw [if_pos rfl] at h; exact word_Alu.calls_17 a1 a2 r w h
  rw [if_neg h17] at h
  by_cases h18 : a0 = 18
  · subst h18; rw [if_pos rfl] at h; exact word_Alu.calls_18 a1 a2 r w h
  rw [if_neg h18] at h
  by_cases h19 : a0 = 19
  · subst h19; rw [if_pos rfl] at h; exact word_Alu.calls_19 a1 a2 r w h
  rw [if_neg h19] at h
  by_cases h20 : a0 = 20
  · subst h20; rw [if_pos rfl] at h; exact word_Alu.calls_20 a1 a2 r w h
  rw [if_neg h20] at h
  by_cases h21 : a0 = 21
  · subst h21; rw [if_pos rfl] at h; exact word_Alu.calls_21 a1 a2 r w h
  rw [if_neg h21] at h
  by_cases h22 : a0 = 22
  · subst h22; rw [if_pos rfl] at h; exact word_Alu.calls_22 a1 a2 r w h
  rw [if_neg h22] at h
  by_cases h23 : a0 = 23
  · subst h23; rw [if_pos rfl] at h; exact word_Alu.calls_23 a1 a2 r w h
  rw [if_neg h23] at h
  by_cases h24 : a0 = 24
  · subst h24; rw [if_pos rfl] at h; exact word_Alu.calls_24 a1 a2 r w h
  rw [if_neg h24] at h
  by_cases h25 : a0 = 25
  · subst h25; rw [if_pos rfl] at h; exact word_Alu.calls_25 a1 a2 r w h
  rw [if_neg h25] at h
  by_cases h26 : a0 = 26
  · subst h26; rw [if_pos rfl] at h; exact word_Alu.calls_26 a1 a2 r w h
  rw [if_neg h26] at h
  by_cases h27 : a0 = 27
  · subst h27; rw [if_pos rfl] at h; exact word_Alu.calls_27 a1 a2 r w h
  rw [if_neg h27] at h
  by_cases h28 : a0 = 28
  · subst h28; rw [if_pos rfl] at h; exact word_Alu.calls_28 a1 a2 r w h
  rw [if_neg h28] at h
  obtain rfl := Option.some.inj h
  exact word_Alu.none_of a0 (beq_eq_false_iff_ne.2 h1) (beq_eq_false_iff_ne.2 h2) (beq_eq_false_iff_ne.2 h3) (beq_eq_false_iff_ne.2 h4) (beq_eq_false_iff_ne.2 h5) (beq_eq_false_iff_ne.2 h6) (beq_eq_false_iff_ne.2 h7) (beq_eq_false_iff_ne.2 h8) (beq_eq_false_iff_ne.2 h9) (beq_eq_false_iff_ne.2 h10) (beq_eq_false_iff_ne.2 h11) (beq_eq_false_iff_ne.2 h12) (beq_eq_false_iff_ne.2 h13) (beq_eq_false_iff_ne.2 h14) (beq_eq_false_iff_ne.2 h15) (beq_eq_false_iff_ne.2 h16) (beq_eq_false_iff_ne.2 h17) (beq_eq_false_iff_ne.2 h18) (beq_eq_false_iff_ne.2 h19) (beq_eq_false_iff_ne.2 h20) (beq_eq_false_iff_ne.2 h21) (beq_eq_false_iff_ne.2 h22) (beq_eq_false_iff_ne.2 h23) (beq_eq_false_iff_ne.2 h24) (beq_eq_false_iff_ne.2 h25) (beq_eq_false_iff_ne.2 h26) (beq_eq_false_iff_ne.2 h27) (beq_eq_false_iff_ne.2 h28) a1 a2 w

/-! ### citadelref01_bit: function 25 -/
def citadelref01_bit.f (a0 : Bool) : Option (Int) := if a0 = true then (some 1) else (some 0)
set_option maxHeartbeats 8000000 in
set_option maxRecDepth 100000 in
theorem citadelref01_bit.calls (a0 : Bool) (r : Int) (w : World) (h : citadelref01_bit.f a0 = some r) :
    Calls Try.prog 25 #[.bool a0] w fun e w' => e = .returned (.int .u64 r) ∧ Drawn0 w w' := by
  have H : (if a0 = true then (some 1) else (some 0)) = some r := h
  clear h
  by_cases c2 : a0 = true
  · subst c2
    have H1 : (some 1) = some r := by rw [if_pos rfl] at H; exact H
    clear H
    have H := H1
    clear H1
    obtain rfl := Option.some.inj H
    go_enter Try.func25, Try.ntmps25
    go_wp2
    go_ret
    exact ⟨by first | rfl | (simp; done) | (simp [*]; done), by repeat (first | exact Drawn0.refl _ | apply Drawn0.step)⟩
  · replace c2 := Bool.eq_false_iff.mpr c2
    subst c2
    have H1 : (some 0) = some r := by rw [if_neg (show ¬ (false = true) by decide)] at H; exact H
    clear H
    have H := H1
    clear H1
    obtain rfl := Option.some.inj H
    go_enter Try.func25, Try.ntmps25
    go_wp2
    go_ret
    exact ⟨by first | rfl | (simp; done) | (simp [*]; done), by repeat (first | exact Drawn0.refl _ | apply Drawn0.step)⟩

/-! ### citadelref01_less: function 26 -/
def citadelref01_less.f (a0 : Int) (a1 : Int) : Option (Bool) := some (decide ((IntKind.u64.wrap (a0 + 9223372036854775808)) < (IntKind.u64.wrap (a1 + 9223372036854775808))))
set_option maxHeartbeats 8000000 in
set_option maxRecDepth 100000 in
theorem citadelref01_less.calls (a0 : Int) (a1 : Int) (r : Bool) (w : World) (h : citadelref01_less.f a0 a1 = some r) :
    Calls Try.prog 26 #[.int .u64 a0, .int .u64 a1] w fun e w' => e = .returned (.bool r) ∧ Drawn0 w w' := by
  have H : (some (decide ((IntKind.u64.wrap (a0 + 9223372036854775808)) < (IntKind.u64.wrap (a1 + 9223372036854775808))))) = some r := h
  clear h
  obtain rfl := Option.some.inj H
  go_enter Try.func26, Try.ntmps26
  go_wp2
  go_ret
  exact ⟨by first | rfl | (simp; done) | (simp [*]; done), by repeat (first | exact Drawn0.refl _ | apply Drawn0.step)⟩

/-! ### citadelref01_sra: function 27 -/
def citadelref01_sra.l0 : Nat → Int → Int → Int → Option (Int)
  | 0, _, _, _ => none
  | k + 1, x0, x1, x5 => if x5 < x1 then (citadelref01_sra.l0 k (IntKind.u64.wrap ((IntKind.u64.wrap (Int.tdiv x0 2)) + (IntKind.u64.wrap ((IntKind.u64.wrap (Int.tdiv x0 9223372036854775808)) * 9223372036854775808)))) x1 (IntKind.u64.wrap (x5 + 1))) else (some x0)
def citadelref01_sra.f (k : Nat) (a0 : Int) (a1 : Int) : Option (Int) := citadelref01_sra.l0 k a0 a1 0
theorem citadelref01_sra.mono_l : ∀ k, (∀ y0 y1 y2, LeO (citadelref01_sra.l0 k y0 y1 y2) (citadelref01_sra.l0 (k + 1) y0 y1 y2))
  | 0 => fun _ _ _ r h => by simp [citadelref01_sra.l0] at h
  | k + 1 => by
    have ih0 := citadelref01_sra.mono_l k
    · intro y0 y1 y2
      unfold citadelref01_sra.l0
      repeat' first
      | (with_reducible exact ih0 _ _ _)
      | (with_reducible exact LeO.refl _)
      | (with_reducible exact LeO.none _)
      | (with_reducible refine LeO.ite ?_ ?_)
      | (with_reducible refine LeO.bind ?_ (fun _ => ?_))
      | exact ih0 _ _ _
      | exact LeO.none _
      | refine LeO.ite ?_ ?_
      | refine LeO.bind ?_ (fun _ => ?_)
theorem citadelref01_sra.mono : ∀ a0 a1 k, LeO (citadelref01_sra.f k a0 a1) (citadelref01_sra.f (k + 1) a0 a1) := by
  intro a0 a1 k
  have ih0 := citadelref01_sra.mono_l k
  unfold citadelref01_sra.f
  repeat' first
      | (with_reducible exact ih0 _ _ _)
      | (with_reducible exact LeO.refl _)
      | (with_reducible exact LeO.none _)
      | (with_reducible refine LeO.ite ?_ ?_)
      | (with_reducible refine LeO.bind ?_ (fun _ => ?_))
      | exact ih0 _ _ _
      | exact LeO.none _
      | refine LeO.ite ?_ ?_
      | refine LeO.bind ?_ (fun _ => ?_)
set_option maxHeartbeats 8000000 in
set_option maxRecDepth 100000 in
theorem citadelref01_sra.calls (k : Nat) (a0 : Int) (a1 : Int) (r : Int) (w : World) (h : citadelref01_sra.f k a0 a1 = some r) :
    Calls Try.prog 27 #[.int .u64 a0, .int .u64 a1] w fun e w' => e = .returned (.int .u64 r) ∧ Drawn0 w w' := by
  have H : (citadelref01_sra.l0 k a0 a1 0) = some r := h
  clear h
  have H' := Aside0.mk H
  clear H
  go_enter Try.func27, Try.ntmps27
  go_wp2
  go_loopg [0, 5] k (fun kq v0 v5 w' => ∃ (x0_1 : Int) (x5_1 : Int), v0 = .int .u64 x0_1 ∧ v5 = .int .u64 x5_1 ∧ Aside0 (citadelref01_sra.l0 kq x0_1 a1 x5_1 = some r) ∧ Aside0 (kq ≤ k) ∧ Drawn0 w w')
  case atStart => exact ⟨(a0), (0), (by first | rfl | (simp; done) | (simp [*]; done)), (by first | rfl | (simp; done) | (simp [*]; done)), H', ⟨Nat.le_refl _⟩, by repeat (first | exact Drawn0.refl _ | apply Drawn0.step)⟩
  case round =>
    clear H'
    try clear c2
    try clear p2
    obtain ⟨x0_1, x5_1, rfl, rfl, HA, HK1, ⟨m1, rfl⟩⟩ := hrel
    cases gk with
    | zero => exact absurd HA.out (by simp [citadelref01_sra.l0])
    | succ k1 =>
      have H := HA.out
      clear HA
      simp only [citadelref01_sra.l0] at H
      by_cases c3 : x5_1 < a1
      · rw [if_pos c3] at H
        have c3b0 : decide (x5_1 < a1) = true := decide_eq_true c3
        clear c3
        have H' := Aside0.mk H
        clear H
        go_wp2
        go_roundg k1
        case measure => have := HK1.out; omega
        case rel => exact ⟨(IntKind.u64.wrap ((IntKind.u64.wrap (Int.tdiv x0_1 2)) + (IntKind.u64.wrap ((IntKind.u64.wrap (Int.tdiv x0_1 9223372036854775808)) * 9223372036854775808)))), (IntKind.u64.wrap (x5_1 + 1)), (by first | rfl | (simp; done) | (simp [*]; done)), (by first | rfl | (simp; done) | (simp [*]; done)), H', ⟨by have := HK1.out; omega⟩, by repeat (first | exact Drawn0.refl _ | apply Drawn0.step)⟩
      · rw [if_neg c3] at H
        have c3b0 : decide (x5_1 < a1) = false := decide_eq_false c3
        clear c3
        obtain rfl := Option.some.inj H
        go_wp2
        go_ret
        exact ⟨by first | rfl | (simp; done) | (simp [*]; done), by repeat (first | exact Drawn0.refl _ | apply Drawn0.step)⟩

/-! ### citadelref01_High: function 29 -/
def citadelref01_High.f (a0 : Int) (a1 : Int) : Option (Int) := some (IntKind.u64.wrap ((IntKind.u64.wrap ((IntKind.u64.wrap ((IntKind.u64.wrap (Int.tdiv a0 4294967296)) * (IntKind.u64.wrap (Int.tdiv a1 4294967296)))) + (IntKind.u64.wrap (Int.tdiv (IntKind.u64.wrap ((IntKind.u64.wrap ((IntKind.u64.wrap (Int.tdiv a0 4294967296)) * (Int.tmod a1 4294967296))) + (IntKind.u64.wrap (Int.tdiv (IntKind.u64.wrap ((Int.tmod a0 4294967296) * (Int.tmod a1 4294967296))) 4294967296)))) 4294967296)))) + (IntKind.u64.wrap (Int.tdiv (IntKind.u64.wrap ((Int.tmod (IntKind.u64.wrap ((IntKind.u64.wrap ((IntKind.u64.wrap (Int.tdiv a0 4294967296)) * (Int.tmod a1 4294967296))) + (IntKind.u64.wrap (Int.tdiv (IntKind.u64.wrap ((Int.tmod a0 4294967296) * (Int.tmod a1 4294967296))) 4294967296)))) 4294967296) + (IntKind.u64.wrap ((Int.tmod a0 4294967296) * (IntKind.u64.wrap (Int.tdiv a1 4294967296)))))) 4294967296))))
set_option maxHeartbeats 8000000 in
set_option maxRecDepth 100000 in
theorem citadelref01_High.calls (a0 : Int) (a1 : Int) (r : Int) (w : World) (h : citadelref01_High.f a0 a1 = some r) :
    Calls Try.prog 29 #[.int .u64 a0, .int .u64 a1] w fun e w' => e = .returned (.int .u64 r) ∧ Drawn0 w w' := by
  have H : (some (IntKind.u64.wrap ((IntKind.u64.wrap ((IntKind.u64.wrap ((IntKind.u64.wrap (Int.tdiv a0 4294967296)) * (IntKind.u64.wrap (Int.tdiv a1 4294967296)))) + (IntKind.u64.wrap (Int.tdiv (IntKind.u64.wrap ((IntKind.u64.wrap ((IntKind.u64.wrap (Int.tdiv a0 4294967296)) * (Int.tmod a1 4294967296))) + (IntKind.u64.wrap (Int.tdiv (IntKind.u64.wrap ((Int.tmod a0 4294967296) * (Int.tmod a1 4294967296))) 4294967296)))) 4294967296)))) + (IntKind.u64.wrap (Int.tdiv (IntKind.u64.wrap ((Int.tmod (IntKind.u64.wrap ((IntKind.u64.wrap ((IntKind.u64.wrap (Int.tdiv a0 4294967296)) * (Int.tmod a1 4294967296))) + (IntKind.u64.wrap (Int.tdiv (IntKind.u64.wrap ((Int.tmod a0 4294967296) * (Int.tmod a1 4294967296))) 4294967296)))) 4294967296) + (IntKind.u64.wrap ((Int.tmod a0 4294967296) * (IntKind.u64.wrap (Int.tdiv a1 4294967296)))))) 4294967296))))) = some r := h
  clear h
  obtain rfl := Option.some.inj H
  go_enter Try.func29, Try.ntmps29
  go_wp2
  go_ret
  exact ⟨by first | rfl | (simp; done) | (simp [*]; done), by repeat (first | exact Drawn0.refl _ | apply Drawn0.step)⟩

/-! ### citadelref01_neg: function 55 -/
def citadelref01_neg.f (a0 : Int) : Option (Bool) := some (decide (a0 ≥ 9223372036854775808))
set_option maxHeartbeats 8000000 in
set_option maxRecDepth 100000 in
theorem citadelref01_neg.calls (a0 : Int) (r : Bool) (w : World) (h : citadelref01_neg.f a0 = some r) :
    Calls Try.prog 55 #[.int .u64 a0] w fun e w' => e = .returned (.bool r) ∧ Drawn0 w w' := by
  have H : (some (decide (a0 ≥ 9223372036854775808))) = some r := h
  clear h
  obtain rfl := Option.some.inj H
  go_enter Try.func55, Try.ntmps55
  go_wp2
  go_ret
  exact ⟨by first | rfl | (simp; done) | (simp [*]; done), by repeat (first | exact Drawn0.refl _ | apply Drawn0.step)⟩

end Go.Proofs.Ytmfbijfghonnjaa.PA
