/- Parts of the walks and laws for the claim: Use, UseB, LawA, UseC, AluW; no conditions beyond the theorems' own. -/
import Derived.Test.YthkodjkkcgdmfaaGreatV4
import Derived.Test.YthkodjkkcgdmfaaGreatV14
import Derived.Test.YthkodjkkcgdmfaaGreatV19
import Derived.Test.YthkodjkkcgdmfaaGreatV20
import Derived.Test.YthkodjkkcgdmfaaGreatV21
section
namespace Go.Proofs.YthkodjkkcgdmfaaGreat.Hart
open Go Go.RowKit Go.Proofs.YthkodjkkcgdmfaaGreat.Step Go.Proofs.YthkodjkkcgdmfaaGreat.Enc Go.Proofs.YthkodjkkcgdmfaaGreat.Kn
open Go.Proofs.YthkodjkkcgdmfaaGreat.Mem (Ram Grow hasB newB wholeB num wr Rd fl Arg lst)
open Go.Proofs.YthkodjkkcgdmfaaGreat.Duo (Duo RdC cm size_two)
set_option linter.unusedVariables false
set_option linter.unusedSimpArgs false
set_option maxRecDepth 100000
section
variable {W X w w' : World} {h1 h2 n g : Nat} {base : Int} {m1 m2 m1' : Nat → Int} {F1 F2 F1' : Nat → Prop} {L L' L0 : Blks} {c : Array Value} {T : TypeId} {tv : Value} {vmid : Int}
/-- Two memories and blocks made beside blocks that were known. -/
theorem DK.join (k : Kn Step.Nil W X L0) (d : DK X w h1 h2 base n m1 m2 F1 F2 L) : DK W w h1 h2 base n m1 m2 F1 F2 (L ++ L0) := by
  have hz := k.mod.size
  have k2 := k.call d.below
  refine ⟨d.one, d.two, d.apart, fun j hj => Nat.le_trans hz (d.new j hj), ⟨k2.mod, fun p hp => ?_, fun p hp hl => ?_, List.pairwise_append.2 ⟨d.kn.nod, k.nod, fun a ha b hb e => ?_⟩⟩, fun j hj p hp e => ?_⟩
  · rcases List.mem_append.1 hp with h | h
    · exact d.kn.blk p h
    · exact k2.blk p h
  · rcases List.mem_append.1 hp with h | h
    · exact (d.kn.own p h (by omega)).elim
    · exact k.own p h hl
  · have h1 := (k.blk b hb).lt
    rw [← e] at h1
    exact (d.kn.own a ha h1).elim
  · rcases List.mem_append.1 hp with h | h
    · exact d.ap j hj p h e
    · have := (k.blk p h).lt
      have := d.new j hj
      omega
/-- A step of the core turned its memory. -/
theorem DK.step (d : DK W w h1 h2 base n m1 m2 F1 F2 ((g, c, T) :: L)) (hk : Kor w' g h1 tv vmid base n m1' F1') (m : Mod (fun k => k = g ∨ F1 k) w w') (hF : ∀ k, F1' k → F1 k ∨ w.heap.size ≤ k) : DK W w' h1 h2 base n m1' m2 F1' F2 L := by
  have hg := fun k hk => (d.ap k (.inr hk) (g, c, T) (List.mem_cons_self ..))
  have hnod := List.pairwise_cons.1 d.kn.nod
  have hW := d.kn.mod.size
  refine ⟨hk.ram, d.two.mod m fun k h2 h => ?_, fun k h1 h2 => ?_, fun k h => ?_, d.kn.drop.turn m (fun p hp h => ?_) (fun i hi h => ?_), fun k h p hp e => ?_⟩
  · rcases h with h | h
    · exact hg k h2 h.symm
    · exact d.apart k h h2
  · rcases hF k h1 with h | h
    · exact d.apart k h h2
    · have := d.two.bound k h2; omega
  · rcases h with h | h
    · rcases hF k h with h | h
      · exact d.new k (.inl h)
      · omega
    · exact d.new k (.inr h)
  · rcases h with h | h
    · exact hnod.1 p hp (h : p.1 = g).symm
    · exact d.ap p.1 (.inl h) p (List.mem_cons_of_mem _ hp) rfl
  · rcases h with h | h
    · have h' : i = g := h
      subst h'
      exact (d.kn.own (i, c, T) (List.mem_cons_self ..) hi).elim
    · have := d.new i (.inl h); omega
  · have hb := (d.kn.blk p (List.mem_cons_of_mem _ hp)).lt
    rcases h with h | h
    · rcases hF k h with h | h
      · exact d.ap k (.inl h) p (List.mem_cons_of_mem _ hp) e
      · omega
    · exact d.ap k (.inr h) p (List.mem_cons_of_mem _ hp) e
end
theorem fd_op (a : Int) : fd a 6 0 = a % 128 := by
  show a / ((1 : Nat) : Int) % ((128 : Nat) : Int) = a % 128
  omega
theorem dec_low {u : Int} {i : Ins} (h : dec u = some i) : u % 4 = 3 := by
  unfold dec decOp at h
  rw [fd_op] at h
  by_cases c : u % 4 = 3
  · exact c
  · exfalso
    have q : ∀ k : Int, k % 4 = 3 → ¬ u % 128 = k := fun k hk e => c (by omega)
    rw [if_neg (q 55 rfl), if_neg (q 23 rfl), if_neg (q 111 rfl), if_neg (q 103 rfl), if_neg (q 99 rfl), if_neg (q 3 rfl), if_neg (q 35 rfl), if_neg (q 19 rfl), if_neg (q 27 rfl), if_neg (q 51 rfl), if_neg (q 59 rfl), if_neg (q 15 rfl), if_neg (q 115 rfl), if_neg (q 47 rfl)] at h
    cases h
theorem word_lo (m : Nat → Int) (u : Int) (hu : W32 u) : num (wr m 0 4 u) 0 2 = u % 65536 ∧ num (wr m 0 4 u) 2 2 = u / 65536 := by
  have hh := hu.out
  constructor
  · show wr m 0 4 u 0 + 256 * (wr m 0 4 u 1 + 256 * 0) = _
    show u / 256 ^ 0 % 256 + 256 * (u / 256 ^ 1 % 256 + 256 * 0) = _
    omega
  · show wr m 0 4 u 2 + 256 * (wr m 0 4 u 3 + 256 * 0) = _
    show u / 256 ^ 2 % 256 + 256 * (u / 256 ^ 3 % 256 + 256 * 0) = _
    omega
theorem ord_pc0 {h : Hrt} (hpc : h.pc = 2147483648) : (ord h).pc = 2147483648 := by show h.pc / 2 * 2 = _; rw [hpc]; rfl
theorem ord_sie0 {h : Hrt} (hs : h.sie = 0) : (ord h).sie = 0 := by show msk h.sie = _; rw [hs]; kernel_rfl
/-- A step of the word at the beginning, whose kind is 13. -/
theorem step_csr {W : World} {gc gm : Nat} {tv : Value} {m0 mem2 : Nat → Int} {F : Nat → Prop} {s2 : Stp} {u : Int} (hk : Kor W gc gm tv 0 2147483648 1 (wr m0 0 4 u) F) (h : Hrt) (hf : Fit h) (now : Int) (hpc : h.pc = 2147483648) (hsie : h.sie = 0) (hsat : h.satp = 0) (hu : W32 u) {fn rd rs1 rs2 imm sz : Int} {sg : Bool} (hd : dec u = some ⟨13, fn, rd, rs1, rs2, imm, sz, sg⟩) (TD : Hid (∀ w, Calls Tryz.prog 63 #[.int .u32 u] w fun e w' => e = .returned (told (dec u)) ∧ Below w.heap.size w w')) (hg2 : s2.gc = gc)
    (HK : ∀ (W' : World) (gs r : Nat) (F' : Nat → Prop), Sy W' gs (decP (newS gc now (ord h)) u ⟨13, fn, rd, rs1, rs2, imm, sz, sg⟩) gm tv 0 0 (.map (some r)) 2147483648 1 (wr m0 0 4 u) F' (fun k => k = r) (KT r fun _ => True) → Calls Tryz.prog 99 #[.pointer (some ⟨gs, 0, none⟩)] W' fun e w' => e = .returned (.tuple #[]) ∧ Out W' w' gs s2 gm tv 0 0 (.map (some r)) 2147483648 1 mem2 F' (fun k => k = r) (KT r fun _ => True)) :
    Calls Tryz.prog 23 #[.pointer (some ⟨gc, 0, none⟩), .agg (hc h), .int .u64 now] W fun e w' => e = .returned (.tuple #[.agg (hc (zeroX s2).h), .agg (ecells (zeroX s2))]) ∧ ∃ F', Kor w' gc gm tv 0 2147483648 1 mem2 F' ∧ Mod (fun k => k = gc ∨ F k) W w' ∧ ∀ k, F' k → F k ∨ W.heap.size ≤ k := by
  have hh := hu.out
  have e4 : u / 65536 * 65536 + u % 65536 = u := by omega
  have hl := word_lo m0 u hu
  have p0 := ord_pc0 hpc
  refine step_any (s2 := zeroX s2) hk h hf now hg2 fun W' gs r y => ?_
  have hsat2 : (ord h).satp = 0 := hsat
  refine run_csr y (show (ord h).satp / 1152921504606846976 = 0 by rw [hsat2]; rfl) (show U64 (ord h).satp by rw [hsat2]; exact ⟨by decide, by decide⟩) (ord_sie0 hsie) (show 0 ≤ (ord h).pc ∧ (ord h).pc + 2 < 18446744073709551616 by rw [p0]; decide) (show hasB 2147483648 1 (ord h).pc 2 = true by rw [p0]; decide) (show hasB 2147483648 1 ((ord h).pc + 2) 2 = true by rw [p0]; decide) (u % 65536) (u / 65536) (by rw [show (newS gc now (ord h)).was.pc = 2147483648 from p0]; exact hl.1) (by rw [show (newS gc now (ord h)).was.pc = 2147483648 from p0]; exact hl.2) (by omega) (by omega) (by have := dec_low hd; omega) fn rd rs1 rs2 imm sz sg (by rw [e4]; exact hd) (by rw [e4]; exact TD) ?_
  rw [e4]
  exact fun W'' F' y2 => HK W'' gs r F' y2
/-- A step of the word at the beginning, whose kind is 18. -/
theorem step_sret {W : World} {gc gm : Nat} {tv : Value} {m0 mem2 : Nat → Int} {F : Nat → Prop} {s2 : Stp} {u : Int} (hk : Kor W gc gm tv 0 2147483648 1 (wr m0 0 4 u) F) (h : Hrt) (hf : Fit h) (now : Int) (hpc : h.pc = 2147483648) (hsie : h.sie = 0) (hsat : h.satp = 0) (hu : W32 u) {fn rd rs1 rs2 imm sz : Int} {sg : Bool} (hd : dec u = some ⟨18, fn, rd, rs1, rs2, imm, sz, sg⟩) (TD : Hid (∀ w, Calls Tryz.prog 63 #[.int .u32 u] w fun e w' => e = .returned (told (dec u)) ∧ Below w.heap.size w w')) (hg2 : s2.gc = gc)
    (HK : ∀ (W' : World) (gs r : Nat) (F' : Nat → Prop), Sy W' gs (decP (newS gc now (ord h)) u ⟨18, fn, rd, rs1, rs2, imm, sz, sg⟩) gm tv 0 0 (.map (some r)) 2147483648 1 (wr m0 0 4 u) F' (fun k => k = r) (KT r fun _ => True) → Calls Tryz.prog 104 #[.pointer (some ⟨gs, 0, none⟩)] W' fun e w' => e = .returned (.tuple #[]) ∧ Out W' w' gs s2 gm tv 0 0 (.map (some r)) 2147483648 1 mem2 F' (fun k => k = r) (KT r fun _ => True)) :
    Calls Tryz.prog 23 #[.pointer (some ⟨gc, 0, none⟩), .agg (hc h), .int .u64 now] W fun e w' => e = .returned (.tuple #[.agg (hc (zeroX s2).h), .agg (ecells (zeroX s2))]) ∧ ∃ F', Kor w' gc gm tv 0 2147483648 1 mem2 F' ∧ Mod (fun k => k = gc ∨ F k) W w' ∧ ∀ k, F' k → F k ∨ W.heap.size ≤ k := by
  have hh := hu.out
  have e4 : u / 65536 * 65536 + u % 65536 = u := by omega
  have hl := word_lo m0 u hu
  have p0 := ord_pc0 hpc
  refine step_any (s2 := zeroX s2) hk h hf now hg2 fun W' gs r y => ?_
  have hsat2 : (ord h).satp = 0 := hsat
  refine run_sret y (show (ord h).satp / 1152921504606846976 = 0 by rw [hsat2]; rfl) (show U64 (ord h).satp by rw [hsat2]; exact ⟨by decide, by decide⟩) (ord_sie0 hsie) (show 0 ≤ (ord h).pc ∧ (ord h).pc + 2 < 18446744073709551616 by rw [p0]; decide) (show hasB 2147483648 1 (ord h).pc 2 = true by rw [p0]; decide) (show hasB 2147483648 1 ((ord h).pc + 2) 2 = true by rw [p0]; decide) (u % 65536) (u / 65536) (by rw [show (newS gc now (ord h)).was.pc = 2147483648 from p0]; exact hl.1) (by rw [show (newS gc now (ord h)).was.pc = 2147483648 from p0]; exact hl.2) (by omega) (by omega) (by have := dec_low hd; omega) fn rd rs1 rs2 imm sz sg (by rw [e4]; exact hd) (by rw [e4]; exact TD) ?_
  rw [e4]
  exact fun W'' F' y2 => HK W'' gs r F' y2
/-- A step of the word at the beginning, whose kind is 19. -/
theorem step_wfi {W : World} {gc gm : Nat} {tv : Value} {m0 mem2 : Nat → Int} {F : Nat → Prop} {s2 : Stp} {u : Int} (hk : Kor W gc gm tv 0 2147483648 1 (wr m0 0 4 u) F) (h : Hrt) (hf : Fit h) (now : Int) (hpc : h.pc = 2147483648) (hsie : h.sie = 0) (hsat : h.satp = 0) (hu : W32 u) {fn rd rs1 rs2 imm sz : Int} {sg : Bool} (hd : dec u = some ⟨19, fn, rd, rs1, rs2, imm, sz, sg⟩) (TD : Hid (∀ w, Calls Tryz.prog 63 #[.int .u32 u] w fun e w' => e = .returned (told (dec u)) ∧ Below w.heap.size w w')) (hg2 : s2.gc = gc)
    (HK : ∀ (W' : World) (gs r : Nat) (F' : Nat → Prop), Sy W' gs (decP (newS gc now (ord h)) u ⟨19, fn, rd, rs1, rs2, imm, sz, sg⟩) gm tv 0 0 (.map (some r)) 2147483648 1 (wr m0 0 4 u) F' (fun k => k = r) (KT r fun _ => True) → Calls Tryz.prog 105 #[.pointer (some ⟨gs, 0, none⟩)] W' fun e w' => e = .returned (.tuple #[]) ∧ Out W' w' gs s2 gm tv 0 0 (.map (some r)) 2147483648 1 mem2 F' (fun k => k = r) (KT r fun _ => True)) :
    Calls Tryz.prog 23 #[.pointer (some ⟨gc, 0, none⟩), .agg (hc h), .int .u64 now] W fun e w' => e = .returned (.tuple #[.agg (hc (zeroX s2).h), .agg (ecells (zeroX s2))]) ∧ ∃ F', Kor w' gc gm tv 0 2147483648 1 mem2 F' ∧ Mod (fun k => k = gc ∨ F k) W w' ∧ ∀ k, F' k → F k ∨ W.heap.size ≤ k := by
  have hh := hu.out
  have e4 : u / 65536 * 65536 + u % 65536 = u := by omega
  have hl := word_lo m0 u hu
  have p0 := ord_pc0 hpc
  refine step_any (s2 := zeroX s2) hk h hf now hg2 fun W' gs r y => ?_
  have hsat2 : (ord h).satp = 0 := hsat
  refine run_wfi y (show (ord h).satp / 1152921504606846976 = 0 by rw [hsat2]; rfl) (show U64 (ord h).satp by rw [hsat2]; exact ⟨by decide, by decide⟩) (ord_sie0 hsie) (show 0 ≤ (ord h).pc ∧ (ord h).pc + 2 < 18446744073709551616 by rw [p0]; decide) (show hasB 2147483648 1 (ord h).pc 2 = true by rw [p0]; decide) (show hasB 2147483648 1 ((ord h).pc + 2) 2 = true by rw [p0]; decide) (u % 65536) (u / 65536) (by rw [show (newS gc now (ord h)).was.pc = 2147483648 from p0]; exact hl.1) (by rw [show (newS gc now (ord h)).was.pc = 2147483648 from p0]; exact hl.2) (by omega) (by omega) (by have := dec_low hd; omega) fn rd rs1 rs2 imm sz sg (by rw [e4]; exact hd) (by rw [e4]; exact TD) ?_
  rw [e4]
  exact fun W'' F' y2 => HK W'' gs r F' y2
/-- A step of the word at the beginning, whose kind is 20. -/
theorem step_sfence {W : World} {gc gm : Nat} {tv : Value} {m0 mem2 : Nat → Int} {F : Nat → Prop} {s2 : Stp} {u : Int} (hk : Kor W gc gm tv 0 2147483648 1 (wr m0 0 4 u) F) (h : Hrt) (hf : Fit h) (now : Int) (hpc : h.pc = 2147483648) (hsie : h.sie = 0) (hsat : h.satp = 0) (hu : W32 u) {fn rd rs1 rs2 imm sz : Int} {sg : Bool} (hd : dec u = some ⟨20, fn, rd, rs1, rs2, imm, sz, sg⟩) (TD : Hid (∀ w, Calls Tryz.prog 63 #[.int .u32 u] w fun e w' => e = .returned (told (dec u)) ∧ Below w.heap.size w w')) (hg2 : s2.gc = gc)
    (HK : ∀ (W' : World) (gs r : Nat) (F' : Nat → Prop), Sy W' gs (decP (newS gc now (ord h)) u ⟨20, fn, rd, rs1, rs2, imm, sz, sg⟩) gm tv 0 0 (.map (some r)) 2147483648 1 (wr m0 0 4 u) F' (fun k => k = r) (KT r fun _ => True) → Calls Tryz.prog 106 #[.pointer (some ⟨gs, 0, none⟩)] W' fun e w' => e = .returned (.tuple #[]) ∧ Out W' w' gs s2 gm tv 0 0 (.map (some r)) 2147483648 1 mem2 F' (fun k => k = r) (KT r fun _ => True)) :
    Calls Tryz.prog 23 #[.pointer (some ⟨gc, 0, none⟩), .agg (hc h), .int .u64 now] W fun e w' => e = .returned (.tuple #[.agg (hc (zeroX s2).h), .agg (ecells (zeroX s2))]) ∧ ∃ F', Kor w' gc gm tv 0 2147483648 1 mem2 F' ∧ Mod (fun k => k = gc ∨ F k) W w' ∧ ∀ k, F' k → F k ∨ W.heap.size ≤ k := by
  have hh := hu.out
  have e4 : u / 65536 * 65536 + u % 65536 = u := by omega
  have hl := word_lo m0 u hu
  have p0 := ord_pc0 hpc
  refine step_any (s2 := zeroX s2) hk h hf now hg2 fun W' gs r y => ?_
  have hsat2 : (ord h).satp = 0 := hsat
  refine run_sfence y (show (ord h).satp / 1152921504606846976 = 0 by rw [hsat2]; rfl) (show U64 (ord h).satp by rw [hsat2]; exact ⟨by decide, by decide⟩) (ord_sie0 hsie) (show 0 ≤ (ord h).pc ∧ (ord h).pc + 2 < 18446744073709551616 by rw [p0]; decide) (show hasB 2147483648 1 (ord h).pc 2 = true by rw [p0]; decide) (show hasB 2147483648 1 ((ord h).pc + 2) 2 = true by rw [p0]; decide) (u % 65536) (u / 65536) (by rw [show (newS gc now (ord h)).was.pc = 2147483648 from p0]; exact hl.1) (by rw [show (newS gc now (ord h)).was.pc = 2147483648 from p0]; exact hl.2) (by omega) (by omega) (by have := dec_low hd; omega) fn rd rs1 rs2 imm sz sg (by rw [e4]; exact hd) (by rw [e4]; exact TD) ?_
  rw [e4]
  exact fun W'' F' y2 => HK W'' gs r F' y2
end Go.Proofs.YthkodjkkcgdmfaaGreat.Hart
end
section
namespace Go.Proofs.YthkodjkkcgdmfaaGreat.Hart
open Go Go.RowKit Go.Proofs.YthkodjkkcgdmfaaGreat.Step Go.Proofs.YthkodjkkcgdmfaaGreat.Enc Go.Proofs.YthkodjkkcgdmfaaGreat.Kn
open Go.Proofs.YthkodjkkcgdmfaaGreat.Mem (Ram Grow hasB newB wholeB num wr Rd fl Arg lst)
open Go.Proofs.YthkodjkkcgdmfaaGreat.Duo (Duo RdC cm size_two)
set_option linter.unusedVariables false
set_option linter.unusedSimpArgs false
set_option maxRecDepth 100000
section
variable {W w w' : World} {h1 h2 n g : Nat} {base : Int} {m1 m2 m1' : Nat → Int} {F1 F2 F1' : Nat → Prop} {L : Blks} {c : Array Value} {T : TypeId} {tv km : Value} {vmid : Int} {p q : Nat × Array Value × TypeId}
theorem DK.swap (d : DK W w h1 h2 base n m1 m2 F1 F2 (p :: q :: L)) : DK W w h1 h2 base n m1 m2 F1 F2 (q :: p :: L) := by
  have hm : ∀ r, r ∈ q :: p :: L → r ∈ p :: q :: L := fun r h => by
    rcases List.mem_cons.1 h with h | h
    · exact List.mem_cons_of_mem _ (h ▸ List.mem_cons_self ..)
    · rcases List.mem_cons.1 h with h | h
      · exact h ▸ List.mem_cons_self ..
      · exact List.mem_cons_of_mem _ (List.mem_cons_of_mem _ h)
  have h1 := List.pairwise_cons.1 d.kn.nod
  have h2 := List.pairwise_cons.1 h1.2
  refine ⟨d.one, d.two, d.apart, d.new, ⟨d.kn.mod, fun r h => d.kn.blk r (hm r h), fun r h => d.kn.own r (hm r h), List.pairwise_cons.2 ⟨fun r hr => ?_, List.pairwise_cons.2 ⟨fun r hr => h1.1 r (List.mem_cons_of_mem _ hr), h2.2⟩⟩⟩, fun k hk r h => d.ap k hk r (hm r h)⟩
  rcases List.mem_cons.1 hr with rfl | hr
  · exact (h1.1 q (List.mem_cons_self ..)).symm
  · exact h2.1 r hr
theorem DK.core1 (d : DK W w h1 h2 base n m1 m2 F1 F2 (p :: (g, ccg h1 tv 0 vmid 0 0 km, TC) :: L)) : Kor w g h1 tv vmid base n m1 F1 := d.drop.core (done := 0) (st := 0)
theorem DK.step1 (d : DK W w h1 h2 base n m1 m2 F1 F2 (p :: (g, c, T) :: L)) (hk : Kor w' g h1 tv vmid base n m1' F1') (m : Mod (fun k => k = g ∨ F1 k) w w') (hF : ∀ k, F1' k → F1 k ∨ w.heap.size ≤ k) : DK W w' h1 h2 base n m1' m2 F1' F2 (p :: L) := d.swap.step hk m hF
theorem same_dk (d : DK W w h1 h2 base n m1 m1 F1 F2 L) : Calls Tryz.prog 26 #[.agg #[.pointer (some ⟨h1, 0, none⟩), .pointer (some ⟨h2, 0, none⟩)]] w fun e w' => e = .returned (.bool true) ∧ Below w.heap.size w w' := Ref.same_two d.one d.two
end
/-- A calm hart. -/
def calmH (h : Hrt) : Hrt := { h with pc := 2147483648, user := false, sie := 0, satp := 0, x := xup h.x 0 0, sepc := h.sepc / 2 * 2, stvec := h.stvec / 4 * 4, sip := msk h.sip }
theorem calm_fit {h : Hrt} (hf : Fit h) : Fit (calmH h) := by
  have z : U64 0 := ⟨by decide, by decide⟩
  refine ⟨fun i hi => ?_, (⟨by decide, by decide⟩ : U64 2147483648), ?_, hf.sscr, ?_, hf.scause, hf.stval, z, msk_w _, z, hf.resv⟩
  · show U64 (xup h.x 0 0 i)
    unfold xup
    split
    · exact z
    · exact hf.x i hi
  · exact ⟨by have := hf.stvec.out; show 0 ≤ h.stvec / 4 * 4 ∧ h.stvec / 4 * 4 < 18446744073709551616; omega⟩
  · exact ⟨by have := hf.sepc.out; show 0 ≤ h.sepc / 2 * 2 ∧ h.sepc / 2 * 2 < 18446744073709551616; omega⟩
set_option maxHeartbeats 4000000 in
theorem calm_any (h : Hrt) (hf : Fit h) (w : World) : Calls Tryz.prog 24 #[.agg (hc h)] w fun e w' => e = .returned (.agg (hc (calmH h))) ∧ Below w.heap.size w w' := by
  have p2 := hf.sepc.out
  have p3 := hf.stvec.out
  have e5 : bits .and .u64 h.sip 546 = msk h.sip := rfl
  have q2 : IntKind.u64.wrap (h.sepc / 2 * 2) = h.sepc / 2 * 2 := IntWalk.u64_in _ (by omega)
  have q3 : IntKind.u64.wrap (h.stvec / 4 * 4) = h.stvec / 4 * 4 := IntWalk.u64_in _ (by omega)
  clear hf
  unfold calmH
  go_enter Tryz.func24, Tryz.ntmps24
  have ST := Lib.hid (Kn.nil (S := Step.Nil) (W := w))
  go_wp2_with (first
    | ((with_reducible refine Step.gate_box (t := 25) rfl ?_); refine Step.fresh (cs := hc h) (T := 25) rfl ?hr ?_; (case hr => first | (go_simp; done) | (go_simp; rfl)); intro g3 w1 b hg hb; replace ST := Lib.hid (ST.out.made b hg hb); clear b hb; clear hg)
    | ((with_reducible refine Step.gate_alloc (t := 25) rfl ?_); refine Step.freshAlloc rfl rfl (alloc_agg zero_hart) ?_; intro g6 w2 b hg hb; replace ST := Lib.hid (ST.out.made b hg hb); clear b hb; clear hg)
    | ((with_reducible refine Step.gate_store (t := 25) rfl ?_); refine Step.storeAll ST.out.at0 rfl rfl rfl rfl rfl (size_hart _) rfl (hc_all _) ?_; intro w3 nb m; replace ST := Lib.hid (ST.out.set0 nb m); clear nb m)
    | ((with_reducible refine Step.gate_load (t := 25) rfl ?_); refine Step.loadAll ST.out.at0 rfl rfl rfl Tryz.underlying25 rfl (size_hart _) ?_)
    | ((with_reducible refine Step.gate_store (t := 25) rfl ?_); refine Step.storeAll ST.out.at1 rfl rfl rfl rfl rfl (size_hart _) rfl (hc_all _) ?_; intro w3 nb m; replace ST := Lib.hid (ST.out.set1 nb m); clear nb m)
    | ((with_reducible refine Step.gate_load (t := 25) rfl ?_); refine Step.loadAll ST.out.at1 rfl rfl rfl Tryz.underlying25 rfl (size_hart _) ?_)
    | ((with_reducible refine Step.gate_store (t := 22) rfl ?_); refine Step.store ST.out.at1 rfl rfl rfl rfl rfl pl_u64 rfl rfl ?_; intro w3 nb m; simp [go_sem, set_x0, set_pc, set_user, set_on, set_spie, set_spp, set_sum, set_mxr, set_rsv, set_stvec, set_sscr, set_sepc, set_scause, set_stval, set_sie, set_sip, set_satp, set_resv] at nb; replace ST := Lib.hid (ST.out.set1 nb m); clear nb m)
    | ((with_reducible refine Step.gate_store (t := 4) rfl ?_); refine Step.store ST.out.at1 rfl rfl rfl rfl rfl pl_bool rfl rfl ?_; intro w3 nb m; simp [go_sem, set_x0, set_pc, set_user, set_on, set_spie, set_spp, set_sum, set_mxr, set_rsv, set_stvec, set_sscr, set_sepc, set_scause, set_stval, set_sie, set_sip, set_satp, set_resv] at nb; replace ST := Lib.hid (ST.out.set1 nb m); clear nb m)
    | ((with_reducible refine Step.gate_load (t := 22) rfl ?_); refine Step.load ST.out.at1 rfl rfl rfl pl_u64 (hv_ok _ (by decide)) ?_; simp only [hv_x0, hv_pc, hv_user, hv_on, hv_spie, hv_spp, hv_sum, hv_mxr, hv_rsv, hv_stvec, hv_sscr, hv_sepc, hv_scause, hv_stval, hv_sie, hv_sip, hv_satp, hv_resv])
    | ((with_reducible refine Step.gate_load (t := 4) rfl ?_); refine Step.load ST.out.at1 rfl rfl rfl pl_bool (hv_ok _ (by decide)) ?_; simp only [hv_x0, hv_pc, hv_user, hv_on, hv_spie, hv_spp, hv_sum, hv_mxr, hv_rsv, hv_stvec, hv_sscr, hv_sepc, hv_scause, hv_stval, hv_sie, hv_sip, hv_satp, hv_resv]))
  all_goals exact bodyPost_ret (results_row rfl _ _ _ _ _ _ rfl ST.out.at0 Tryz.underlying25 rfl (size_hart _)) rfl ⟨rfl, ST.out.below⟩
end Go.Proofs.YthkodjkkcgdmfaaGreat.Hart
end
section
namespace Go.Proofs.YthkodjkkcgdmfaaGreat.Hart
open Go Go.RowKit Go.Proofs.YthkodjkkcgdmfaaGreat.Step Go.Proofs.YthkodjkkcgdmfaaGreat.Enc Go.Proofs.YthkodjkkcgdmfaaGreat.Kn
set_option linter.unusedVariables false
set_option linter.unusedSimpArgs false
set_option maxRecDepth 100000
theorem forIn_list {β : Type} (P : Program) (w : World) (b : β) (f : Nat → β → Sem (ForInStep β)) : ∀ (l : List Nat), (∀ i ∈ l, (f i b).run P w = .ok (.yield b) w) → (forIn l b f).run P w = .ok b w
  | [], _ => by simp
  | i :: l, h => by
    simp only [List.forIn_cons, Sem.run_bind, h i (List.mem_cons_self ..), Result.andThen_ok]
    exact forIn_list P w b f l fun j hj => h j (List.mem_cons_of_mem _ hj)
theorem forIn_upto {β : Type} (P : Program) (w : World) (n : Nat) (b : β) (f : Nat → β → Sem (ForInStep β)) (h : ∀ i, i < n → (f i b).run P w = .ok (.yield b) w) : (forIn [:n] b f).run P w = .ok b w := by
  first
    | rw [Std.Range.forIn_eq_forIn_range']
    | rw [Std.Legacy.Range.forIn_eq_forIn_range']
  refine forIn_list P w b f _ fun i hi => h i ?_
  simp [Std.Legacy.Range.size, List.mem_range'] at hi
  omega
set_option maxHeartbeats 4000000 in
theorem arr_same (d : Nat) (x : Nat → Int) (w : World) : (Op.equalIn (d + 2) 23 (.agg ((Array.range 32).map fun i => .int .u64 (x i))) (.agg ((Array.range 32).map fun i => .int .u64 (x i)))).run Tryz.prog w = .ok true w := by
  have hu := Tryz.underlying23
  have hu2 := Tryz.underlying22
  have hs : (sizeOf 22).run Tryz.prog w = .ok 1 w := by first | (go_simp; done) | (go_simp; rfl)
  unfold Op.equalIn
  simp only [Sem.run_bind, run_underlying hu, Result.andThen_ok, hs]
  rw [forIn_upto _ _ _ _ _ fun i hi => ?_]
  · simp
  · simp only [Nat.mul_one]
    have hg : ((Array.range 32).map fun i => Value.int .u64 (x i))[i]? = some (.int .u64 (x i)) := by simp [hi]
    have hz : ((Array.range 32).map fun i => Value.int .u64 (x i)).size = 32 := by simp
    generalize ((Array.range 32).map fun i => Value.int .u64 (x i)) = arr at hg hz ⊢
    have hp : (part 22 arr i).run Tryz.prog w = .ok (.int .u64 (x i)) w := by
      go_simp
      exact (Array.getElem?_eq_some_iff.1 hg).2
    have he : (Op.equalIn (d + 1) 22 (.int .u64 (x i)) (.int .u64 (x i))).run Tryz.prog w = .ok true w := by
      unfold Op.equalIn
      simp [Sem.run_bind, run_underlying hu2, Result.andThen_ok]
    simp [Sem.run_bind, hp, he, Result.andThen_ok]
theorem gate_bin {P : Program} {ops : Array Oper} {rest : List Oper} {o : Oper} {a : Act} {W : World} {Q : Exit → Act → World → Prop} {b : BinOp} {t t2 : TypeId} {x y : Operand} (_ : o.op = .binOp b t x y t2) (h : wpList P ops Q (o :: rest) a W) : wpList P ops Q (o :: rest) a W := h
end Go.Proofs.YthkodjkkcgdmfaaGreat.Hart
end
section
namespace Go.Proofs.YthkodjkkcgdmfaaGreat.Hart
open Go Go.RowKit Go.Proofs.YthkodjkkcgdmfaaGreat.Step Go.Proofs.YthkodjkkcgdmfaaGreat.Enc Go.Proofs.YthkodjkkcgdmfaaGreat.Kn
open Go.Proofs.YthkodjkkcgdmfaaGreat.Mem (Ram Grow hasB newB wholeB num wr Rd fl Arg lst)
open Go.Proofs.YthkodjkkcgdmfaaGreat.Duo (Duo RdC cm size_two)
set_option linter.unusedVariables false
set_option linter.unusedSimpArgs false
set_option maxRecDepth 100000
theorem no_cells (W : World) (G : Nat → Prop) : RdC W none 0 (fun _ => (0, 0)) G := fun i hi => absurd hi (Nat.not_lt_zero i)
section
variable {P : Program} {ops : Array Oper} {rest : List Oper} {o : Oper} {a : Act} {W : World} {Q : Exit → Act → World → Prop}
theorem loadMidW {t : TypeId} {x : Operand} {g k : Nat} {cs ds : Array Value} {T : TypeId} {d : TypeDesc} (hB : Blk W g cs T) (hw : Region.wanted o (yielded ops a.tmps) = true) (ho : o.op = .load t x) (hx : a.eval x = .pointer (some ⟨g, k, none⟩)) (hr : Row cs k ds) (hu : P.underlying t = some d)
    (hd : d.isRow = true) (hi : (P.info? t).map (·.size) = some ds.size) (h : wpList P ops Q rest (a.put o.dst (.agg ds)) W) : wpList P ops Q (o :: rest) a W := by
  refine BigFrame.wpList_want hw fun K hK => ?_
  have h2 := run_loadAt_mid (P := P) W g k t ds.toList d (fun j v hv => (hB.cell (k + j)).trans (hr j v hv)) hu hd (by simpa using hi)
  have h3 : (execOp a.eval o).run P W = .ok (.value (.agg ds)) W := by simp [execOp, ho, hx, h2, Result.andThen]
  unfold Oper.wp; rw [h3]; exact hK _ _ h
theorem valueW {v : Value} (hw : Region.wanted o (yielded ops a.tmps) = true) (hr : (execOp a.eval o).run P W = .ok (.value v) W) (h : wpList P ops Q rest (a.put o.dst v) W) : wpList P ops Q (o :: rest) a W := by
  refine BigFrame.wpList_want hw fun K hK => ?_
  unfold Oper.wp; rw [hr]; exact hK _ _ h
end
/-- A hart's registers. -/
def xa (x : Nat → Int) : Array Value := (Array.range 32).map fun i => .int .u64 (x i)
theorem xa_size (x : Nat → Int) : (xa x).size = 32 := by simp [xa]
theorem size_arr (x : Nat → Int) : (Tryz.prog.info? 23).map (·.size) = some (xa x).size := by
  rw [xa_size]
  exact (by kernel_rfl : (Tryz.prog.info? 23).map (·.size) = some 32)
theorem row_x (h : Hrt) : Row (hc h) 0 (xa h.x) := fun j v hv => by
  rw [Array.getElem?_toList] at hv
  have hj : j < 32 := by
    have := (Array.getElem?_eq_some_iff.1 hv).1
    rwa [xa_size] at this
  rw [Nat.zero_add, hc_x h hj]
  simpa [xa, hj] using hv
theorem eql_arr {a : Act} {o : Oper} {x y : Operand} {f : Nat → Int} (ho : o.op = .binOp .eql 23 x y 23) (hx : a.eval x = .agg (xa f)) (hy : a.eval y = .agg (xa f)) (W : World) : (execOp a.eval o).run Tryz.prog W = .ok (.value (.bool true)) W := by
  have hg := run_eqGuard_agg (P := Tryz.prog) (w := W) .eql 23 x y (xa f) (xa f) (by kernel_rfl)
  have he : (Op.equal 23 (.agg (xa f)) (.agg (xa f))).run Tryz.prog W = .ok true W := arr_same 9998 f W
  simp only [execOp, ho, hx, hy]
  simp [binOp, hg, he, Sem.run_bind, Result.andThen]
theorem DK.solo {W w : World} {h1 h2 n : Nat} {base : Int} {m1 m2 : Nat → Int} {F1 F2 : Nat → Prop} {p q : Nat × Array Value × TypeId} (d : DK W w h1 h2 base n m1 m2 F1 F2 [p, q]) : DK W w h1 h2 base n m1 m2 F1 F2 [p] := d.sub (List.Sublist.cons_cons _ (List.nil_sublist _))
theorem u_of {u : Int} (h : W32 u) : U64 u := ⟨by have := h.out; omega, by have := h.out; omega⟩
theorem xup_at (x : Nat → Int) (i : Nat) (v : Int) : xup x i v i = v := if_pos rfl
theorem xup_zero {x : Nat → Int} (h : x 0 = 0) : xup x 0 0 = x := by
  funext k
  unfold xup
  split
  · rename_i e; rw [e, h]
  · rfl
end Go.Proofs.YthkodjkkcgdmfaaGreat.Hart
end
section
namespace Go.Proofs.YthkodjkkcgdmfaaGreat.Enc
open Go Go.RowKit Go.Proofs.YthkodjkkcgdmfaaGreat.Step
set_option linter.unusedVariables false
set_option linter.unusedSimpArgs false
set_option maxRecDepth 100000
theorem fd_of {a : Int} {h l : Nat} {n m : Int} (hn : n = ((2 ^ l : Nat) : Int)) (hm : m = ((2 ^ (h - l + 1) : Nat) : Int)) : fd a h l = a / n % m := by
  subst hn hm
  rfl
end Go.Proofs.YthkodjkkcgdmfaaGreat.Enc
end
