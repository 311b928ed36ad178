/- A memory is made, cleared, filled, told, copied. -/
import Derived.Test.YtfoocpcpljlndaaRamC
namespace Go.Proofs.Ytfoocpcpljlndaa.Mem
open Go Go.RowKit Go.Proofs.Ytfoocpcpljlndaa.Step
set_option linter.unusedVariables false
set_option linter.unusedSimpArgs false
set_option maxRecDepth 100000

theorem mk_frs : (Try.prog.info? 101).map (fun i => (i.size, i.bytes, i.zero)) = some (1, 8, some (.pointer none)) := by kernel_rfl
theorem mk_u8 : (Try.prog.info? 5).map (fun i => (i.size, i.bytes, i.zero)) = some (1, 1, some (.int .u8 0)) := by kernel_rfl
/-- Is there a memory of so many frames at this base? -/
def newB (base n : Int) : Bool := decide (1 ≤ n ∧ n ≤ 1024 ∧ base % 4096 = 0 ∧ base ≤ 4503599627370496)
set_option maxHeartbeats 1000000 in
theorem new_no (W : World) (base n : Int) (hb : 0 ≤ base ∧ base < 18446744073709551616) (h : newB base n = false) :
    Calls Try.prog 23 #[.int .u64 base, .int .i64 n] W fun e W' => e = .returned (.tuple #[.pointer none, .int .i64 1]) ∧ W = W' := by
  have h := of_decide_eq_false h
  obtain ⟨b1, b2⟩ := hb
  by_cases h1 : n < 1
  · clear h; go_enter Try.func23, Try.ntmps23; go_wp2; exact bodyPost_ret (results_tmp2 rfl _ _ _) rfl ⟨rfl, rfl⟩
  have h1' : 1 ≤ n := by omega
  by_cases h2 : 1024 < n
  · clear h h1; go_enter Try.func23, Try.ntmps23; go_wp2; exact bodyPost_ret (results_tmp2 rfl _ _ _) rfl ⟨rfl, rfl⟩
  have h2' : n ≤ 1024 := by omega
  by_cases h3 : base % 4096 = 0
  · have h4 : 4503599627370496 < base := by omega
    clear h h1 h2
    go_enter Try.func23, Try.ntmps23; go_wp2; exact bodyPost_ret (results_tmp2 rfl _ _ _) rfl ⟨rfl, rfl⟩
  · have d3 : (base % 4096 != 0) = true := by simpa using h3
    clear h h1 h2
    go_enter Try.func23, Try.ntmps23; go_wp2; exact bodyPost_ret (results_tmp2 rfl _ _ _) rfl ⟨rfl, rfl⟩

set_option maxHeartbeats 1000000 in
theorem new_yes (W : World) (base : Int) (n : Nat) (hb : 0 ≤ base ∧ base < 18446744073709551616) (h : newB base n = true) :
    Calls Try.prog 23 #[.int .u64 base, .int .i64 n] W fun e W' => ∃ h, e = .returned (.tuple #[.pointer (some ⟨h, 0, none⟩), .int .i64 0]) ∧ Ram W' h base n (fun _ => 0) (Grow Nil W W') ∧ Mod Nil W W' := by
  obtain ⟨h1, h2, h3, h4⟩ := of_decide_eq_true h
  obtain ⟨b1, b2⟩ := hb
  clear h
  have d1 : decide ((n : Int) < 1) = false := by simpa using h1
  have d2 : decide (1024 < (n : Int)) = false := by simpa using h2
  have d4 : decide (4503599627370496 < base) = false := by simpa using h4
  have HN := Lib.hid (show 8 * n ≤ 281474976710656 by omega)
  have HN2 := Lib.hid (show n ≤ 9223372036854775807 by omega)
  have HB := Lib.hid (⟨h1, h2, h4, b1⟩ : (1 ≤ (n : Int)) ∧ (n : Int) ≤ 1024 ∧ base ≤ 4503599627370496 ∧ 0 ≤ base)
  have hu66 := Try.underlying95
  clear h1 h2 h4 b2
  go_enter Try.func23, Try.ntmps23
  go_wp2_with (first
    | (refine Step.make (t := 93) rfl rfl rfl rfl Try.underlying93 mk_frs rfl HN.out HN2.out ?_; intro g w1 b hg hb; have B1 := Lib.hid b; have HG := Lib.hid hg; have HM := Lib.hid hb; clear b hg hb)
    | ((with_reducible refine Step.gate_box (t := 95) rfl ?_); refine Step.fresh (cs := #[.int .u64 base, .slice (some ⟨g, 0, none⟩) n n]) (T := 95) rfl ?hr ?_; (case hr => first | (go_simp; done) | (go_simp; rfl)); intro g2 w2 b hg hb; have B2 := Lib.hid b; have B3 := Lib.hid (B1.out.below hb); have HG2 := Lib.hid hg; have HM2 := Lib.hid hb; clear b hg hb))
  refine bodyPost_ret (results_tmp2 rfl _ _ _) rfl ⟨g2, rfl, ?_, Mod.of_below (below_below HM.out (HM2.out)) Nil⟩
  obtain ⟨hn1, hn2, hb1, hb2⟩ := HB.out
  have s1 := HG.out
  have s2 := HG2.out
  have l1 := B1.out.lt
  have l2 := B2.out.lt
  have l3 := B3.out.lt
  refine ⟨g, Array.replicate n (.pointer none), fun _ => none, ?_⟩
  exact { hdr := B2.out, row := B3.out, csz := by simp, n_lo := by omega, n_hi := by omega, b_lo := hb2, b_hi := hb1, at_ := fun k hk => by simp [hk], frame := fun k g hk hf => (by cases hf), none_ := fun k hk hf j hj => rfl, inj := fun k k' g hk hk' h1 h2 => (by cases h1), foot_h := .inr ⟨by omega, l2⟩, foot_fb := .inr ⟨s1, l3⟩, bound := fun k hk => hk.elim (fun h => h.elim) (fun h => h.2), byte := fun i hi => by decide }

/-- A cleared frame. -/
def clr (mem : Nat → Int) (k : Nat) : Nat → Int := fun i => if i / 4096 = k then 0 else mem i
end Go.Proofs.Ytfoocpcpljlndaa.Mem
