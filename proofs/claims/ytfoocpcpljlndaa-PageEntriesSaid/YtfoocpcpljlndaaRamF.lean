/- A memory is copied. -/
import Derived.Test.YtfoocpcpljlndaaRamE
import Derived.Deep.RegionHeld3
namespace Go.Proofs.Ytfoocpcpljlndaa.Mem
open Go Go.RowKit Go.Proofs.Ytfoocpcpljlndaa.Step
set_option linter.unusedVariables false
set_option linter.unusedSimpArgs false
set_option maxRecDepth 100000

theorem make_frs (n : Nat) (hn : n ≤ 1024) (w : World) : (Instr.makeSlice 93 (.int .i64 n) (.int .i64 n)).run Try.prog w = .ok (.slice (some ⟨w.heap.size, 0, none⟩) n n) (w.alloc (.cells (Array.replicate n (.pointer none)) 101 (0, 0))) := by
  have h := mk_frs
  cases hi' : Try.prog.info? 101 with
  | none => rw [hi'] at h; cases h
  | some i =>
    rw [hi'] at h
    simp only [Option.map_some, Option.some.injEq, Prod.mk.injEq] at h
    obtain ⟨h1, h2, h3⟩ := h
    have hr := run_make (P := Try.prog) w 93 101 i _ Try.underlying93 hi' h3 .i64 .i64 n n (by omega) (Int.le_refl _) (by rw [h2]; omega) (by omega)
    simp only [Int.toNat_natCast, h1, Nat.mul_one, Value.cells, madeCells_one] at hr
    exact hr
theorem size_frame : (Try.prog.info? 103).map (·.size) = some 4096 := by kernel_rfl
/-- A frame is laid into a memory. -/
theorem RamIn.lay {W W' : World} {h fb : Nat} {cs : Array Value} {fs : Nat → Option Nat} {base : Int} {n : Nat} {mem mem' : Nat → Int} {F : Nat → Prop} (r : RamIn W h fb cs fs base n mem F) {k g : Nat} {bs : Array Value} (hk : k < n)
    (hfb : Blk W' fb (cs.setIfInBounds k (.pointer (some ⟨g, 0, none⟩))) 101) (hg : Blk W' g bs 103) (hsz : bs.size = 4096) (hbs : ∀ j, j < 4096 → bs[j]? = some (.int .u8 (mem' (k * 4096 + j)))) (hnew : W.heap.size ≤ g) (m : Mod (One fb) W W')
    (hm : ∀ i, i / 4096 ≠ k → mem' i = mem i) (hb : ∀ j, j < 4096 → 0 ≤ mem' (k * 4096 + j) ∧ mem' (k * 4096 + j) < 256) : RamIn W' h fb (cs.setIfInBounds k (.pointer (some ⟨g, 0, none⟩))) (fun i => if i = k then some g else fs i) base n mem' (Grow F W W') := by
  have hne : h ≠ fb := fun e => by subst e; have := (r.hdr.inj r.row).2; revert this; decide
  have old : ∀ c, c < n → fs c ≠ some g := fun c hc hcg => by
    have := r.bound g (r.frame c g hc hcg).1
    omega
  refine { hdr := r.hdr.one m hne, row := hfb, csz := by simpa using r.csz, n_lo := r.n_lo, n_hi := r.n_hi, b_lo := r.b_lo, b_hi := r.b_hi, at_ := fun k' hk' => ?_, frame := fun k' g' hk' hf' => ?_, none_ := fun k' hk' hf' j' hj' => ?_, inj := fun a b g' ha hb h1 h2 => ?_, foot_h := .inl r.foot_h, foot_fb := .inl r.foot_fb, bound := Grow.bound r.bound m.size, byte := fun i hi => ?_ }
  · by_cases e : k = k'
    · subst e; simp [r.csz, hk]
    · rw [Array.getElem?_setIfInBounds_ne e]; simp only [if_neg (Ne.symm e)]; exact r.at_ k' hk'
  · by_cases e : k' = k
    · subst e
      simp only [if_true, Option.some.injEq] at hf'
      subst hf'
      exact ⟨.inr ⟨hnew, hg.lt⟩, _, hg, hsz, hbs⟩
    · simp only [if_neg e] at hf'
      obtain ⟨hF', bs', hb2, hsz', hbs'⟩ := r.frame k' g' hk' hf'
      have : g' ≠ fb := fun eg => by subst eg; have := (hb2.inj r.row).2; revert this; decide
      refine ⟨.inl hF', bs', hb2.one m this, hsz', fun j' hj' => ?_⟩
      rw [hm _ (by omega)]; exact hbs' j' hj'
  · by_cases e : k' = k
    · simp [e] at hf'
    · simp only [if_neg e] at hf'
      rw [hm _ (by omega)]; exact r.none_ k' hk' hf' j' hj'
  · by_cases ea : a = k <;> by_cases eb : b = k
    · rw [ea, eb]
    · simp only [if_pos ea, if_neg eb, Option.some.injEq] at h1 h2; subst h1; exact absurd h2 (old b hb)
    · simp only [if_neg ea, if_pos eb, Option.some.injEq] at h1 h2; subst h2; exact absurd h1 (old a ha)
    · simp only [if_neg ea, if_neg eb] at h1 h2; exact r.inj a b g' ha hb h1 h2
  · by_cases e : i / 4096 = k
    · have := hb (i % 4096) (by omega)
      rwa [show k * 4096 + i % 4096 = i by omega] at this
    · rw [hm i e]; exact r.byte i hi
/-- The first k frames of a content. -/
def first (mem : Nat → Int) (k : Nat) : Nat → Int := fun i => if i < k * 4096 then mem i else 0
end Go.Proofs.Ytfoocpcpljlndaa.Mem
