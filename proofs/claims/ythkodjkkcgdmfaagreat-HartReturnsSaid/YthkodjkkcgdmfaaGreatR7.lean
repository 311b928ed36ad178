/- Parts of the walks and laws for the claim: Step2, Own, RamE, RamF, Pair, Ref, RefB, RefC, RefD, Memory, MemoryB, LendA, New; no conditions beyond the theorems' own. -/
import Derived.Below
import Derived.ChangeSlices
import Derived.Deep.RegionHeld3
import Derived.Laws.AppendOwn
import Derived.Laws.Cover3
import Derived.Laws.OwnMore
import Derived.Laws.ResultCell
import Derived.OpenShut
import Derived.ProofKit
import Derived.RowKit
import Derived.WalkKit
import Derived.Test.YthkodjkkcgdmfaaGreatR5
import Derived.Test.YthkodjkkcgdmfaaGreatR6
section
namespace Go.Proofs.YthkodjkkcgdmfaaGreat.Hart
open Go Go.RowKit Go.Proofs.YthkodjkkcgdmfaaGreat.Step Go.Proofs.YthkodjkkcgdmfaaGreat.Enc Go.Proofs.YthkodjkkcgdmfaaGreat.Kn
open Go.Proofs.YthkodjkkcgdmfaaGreat.Mem (Ram Grow hasB wholeB num wr)
set_option linter.unusedVariables false
set_option linter.unusedSimpArgs false
set_option maxRecDepth 100000
set_option maxHeartbeats 4000000 in
theorem do_first {W : World} {b gc gm : Nat} {tv km : Value} {root vmid : Int} (hx : Blk W b #[.pointer (some ⟨gc, 0, none⟩)] 36) (hb : Blk W gc (ccg gm tv root vmid 0 0 km) TC) (hne : b ≠ gc) :
    Calls Tryz.prog 57 #[.pointer (some ⟨gc, 4, none⟩), .func (.func 58) #[] #[.pointer (some ⟨b, 0, none⟩)]] W fun e w' => e = .returned (.tuple #[]) ∧ ∃ r, W.heap.size ≤ r ∧ Blk w' gc (ccg gm tv root vmid 1 0 (.map (some r))) TC ∧ Mod (One gc) W w' ∧ w'.heap[r]? = some (.map kindsE 20) := by
  have hnot := fcall_not
  have T0 := Lib.hid (doSlow hx hb hne)
  have TD := Lib.hid (isDone hb false rfl)
  clear hx hb hne
  go_enter Tryz.func57, Tryz.ntmps57
  go_wp2_with (first
    | (go_at_call 85; (with_reducible refine (TD.out).mono ?_); rintro e w' ⟨rfl, rfl⟩)
    | (go_at_call 86; (with_reducible refine (T0.out).mono ?_); rintro e w' ⟨rfl, hq⟩; have HQ := Lib.hid hq; clear hq))
  all_goals (first | go_ret | go_end0 | refine bodyPost_ret (results_none rfl _ _ _) rfl ?_)
  exact ⟨rfl, HQ.out⟩
set_option maxHeartbeats 4000000 in
theorem do_more {W : World} {b gc gm : Nat} {tv km : Value} {root vmid : Int} (hb : Blk W gc (ccg gm tv root vmid 1 0 km) TC) :
    Calls Tryz.prog 57 #[.pointer (some ⟨gc, 4, none⟩), .func (.func 58) #[] #[.pointer (some ⟨b, 0, none⟩)]] W fun e w' => e = .returned (.tuple #[]) ∧ w' = W := by
  have hnot := fcall_not
  have TD := Lib.hid (isDone hb true rfl)
  clear hb
  go_enter Tryz.func57, Tryz.ntmps57
  go_wp2_with (go_at_call 85; (with_reducible refine (TD.out).mono ?_); rintro e w' ⟨rfl, rfl⟩)
  all_goals (first | go_ret | go_end0 | refine bodyPost_ret (results_none rfl _ _ _) rfl ?_)
  exact ⟨rfl, rfl⟩
/-- A step at its beginning. -/
def newS (gc : Nat) (now : Int) (h : Hrt) : Stp := { gc := gc, was := h, h := h, dry := false, now := now, k := 0, fn := 0, rd := 0, rs1 := 0, rs2 := 0, imm := 0, sz := 0, sg := false, long := 0, bits := 0, ek := 0, ea := 0, eva := 0, egpa := 0, ewalk := false, ewrote := false }
def zS : Stp := newS 0 0 zh
theorem zero_step : (Tryz.prog.info? 85).bind (·.zero) = some (.agg ((sc zS).setIfInBounds 0 (.pointer none))) := by kernel_rfl
theorem lays_was (s : Stp) (h' : Hrt) : lays (sc s) 3 (hc h').toList = sc { s with was := h' } := by
  refine Array.toList_inj.1 ((lays_list _ _ _ (Nat.le_of_ble_eq_true rfl)).trans rfl)
theorem fold_lays (off : Nat) : ∀ (vs : List Value) (k : Nat) (cs : Array Value), (vs.zipIdx k).foldl (fun cs (c, j) => cs.setIfInBounds (off + j) c) cs = lays cs (off + k) vs
  | [], _, _ => rfl
  | v :: r, k, cs => by
    rw [List.zipIdx_cons, List.foldl_cons]
    exact fold_lays off r (k + 1) _
theorem fill_at {place : Nat → Option (Nat × Nat)} {cells : Array Value} {i off size : Nat} {v : Value} {rest : List (Nat × Value)} (hp : place i = some (off, size)) (hs : v.cells.size = size) (hle : off + size ≤ cells.size) :
    Instr.fill place cells ((i, v) :: rest) = Instr.fill place (lays cells off v.cells.toList) rest := by
  subst hs
  have e : v.cells.zipIdx.foldl (fun cs (c, j) => cs.setIfInBounds (off + j) c) cells = lays cells off v.cells.toList := by
    rw [← Array.foldl_toList, Array.toList_zipIdx]
    exact fold_lays off _ 0 _
  simp only [Instr.fill, hp]
  rw [if_neg (by simp; omega), e]
def placesS : Array (Nat × Nat) := #[(0, 1), (1, 1), (2, 1), (3, 49), (52, 49), (101, 8), (109, 1), (110, 1), (111, 6)]
theorem fill_new (gc : Nat) (now : Int) (h : Hrt) : Instr.fill (placesS[·]?) ((sc zS).setIfInBounds 0 (.pointer none)) [(0, .pointer (some ⟨gc, 0, none⟩)), (2, .int .u64 now), (3, .agg (hc h)), (4, .agg (hc h))] = some (sc (newS gc now h)) := by
  rw [fill_at (off := 0) (size := 1) rfl rfl (Nat.le_of_ble_eq_true rfl)]
  rw [show lays ((sc zS).setIfInBounds 0 (.pointer none)) 0 (Value.pointer (some ⟨gc, 0, none⟩)).cells.toList = sc (newS gc 0 zh) from rfl]
  rw [fill_at (off := 2) (size := 1) rfl rfl (Nat.le_of_ble_eq_true rfl)]
  rw [show lays (sc (newS gc 0 zh)) 2 (Value.int .u64 now).cells.toList = sc (newS gc now zh) from rfl]
  rw [fill_at (off := 3) (size := 49) rfl rfl (Nat.le_of_ble_eq_true rfl)]
  rw [show (Value.agg (hc h)).cells = hc h from rfl, lays_was]
  rw [fill_at (off := 52) (size := 49) rfl rfl (Nat.le_of_ble_eq_true rfl)]
  rw [show (Value.agg (hc h)).cells = hc h from rfl, lays_h]
  rfl
theorem places_run (W : World) : ∃ fs, Tryz.prog.underlying 85 = some (.struct fs) ∧ (fs.mapM fun f => do pure (f.offset, ← sizeOf f.type) : Sem (Array (Nat × Nat))).run Tryz.prog W = .ok placesS W := by
  refine ⟨_, Tryz.underlying85, ?_⟩
  unfold placesS
  first | (go_simp; done) | (go_simp; rfl)
theorem run_build {P : Program} {t : TypeId} {fs : Array Field} {places : Array (Nat × Nat)} {z cells : Array Value} {parts : Array (Nat × Value)} {W : World} (hu : P.underlying t = some (.struct fs)) (hz : (P.info? t).bind (·.zero) = some (.agg z)) (hp : (fs.mapM fun f => do pure (f.offset, ← sizeOf f.type) : Sem (Array (Nat × Nat))).run P W = .ok places W)
    (hf : Instr.fill (places[·]?) z parts.toList = some cells) : (Instr.build t parts).run P W = .ok (.agg cells) W := by
  have hz' : (zeroValue t).run P W = .ok (.agg z) W := by
    cases hi : P.info? t with
    | none => rw [hi] at hz; cases hz
    | some i =>
      rw [hi] at hz
      have e : i.zero = some (.agg z) := hz
      simp [zeroValue, typeInfo, hi, e]
  unfold Instr.build
  simp only [Sem.run_bind, hz', Result.andThen_ok, run_underlying hu W, hp]
  rw [show (Value.agg z).cells = z from rfl, hf]
  rfl
theorem build_new {a : Act} {o : Oper} {x0 x2 x3 x4 : Operand} {gc : Nat} {now : Int} {h : Hrt} (ho : o.op = .build 85 #[(0, x0), (2, x2), (3, x3), (4, x4)]) (h0 : a.eval x0 = .pointer (some ⟨gc, 0, none⟩)) (h2 : a.eval x2 = .int .u64 now) (h3 : a.eval x3 = .agg (hc h)) (h4 : a.eval x4 = .agg (hc h)) (W : World) :
    (execOp a.eval o).run Tryz.prog W = .ok (.value (.agg (sc (newS gc now h)))) W := by
  obtain ⟨fs, hu, hp⟩ := places_run W
  have hb := run_build (P := Tryz.prog) (t := 85) (parts := #[(0, .pointer (some ⟨gc, 0, none⟩)), (2, .int .u64 now), (3, .agg (hc h)), (4, .agg (hc h))]) hu zero_step hp (fill_new gc now h)
  simp only [execOp, ho, List.map_toArray, List.map_cons, List.map_nil, h0, h2, h3, h4, Sem.run_bind, hb, Result.andThen_ok, Sem.run_pure]
theorem gate_buildS {P : Program} {ops : Array Oper} {rest : List Oper} {o : Oper} {a : Act} {W : World} {Q : Exit → Act → World → Prop} {t : TypeId} {x : Array (Nat × Operand)} (_ : o.op = .build t x) (h : wpList P ops Q (o :: rest) a W) : wpList P ops Q (o :: rest) a W := h
theorem heap_below {w w' : World} {r : Nat} {x : Obj} (h : w.heap[r]? = some x) (hb : Below w.heap.size w w') : w'.heap[r]? = some x := (hb.block r (Array.getElem?_eq_some_iff.1 h).1).trans h
theorem heap_mod {w w' : World} {r : Nat} {x : Obj} {S : Nat → Prop} (h : w.heap[r]? = some x) (m : Mod S w w') (hs : ¬ S r) : w'.heap[r]? = some x := (m.block r (Array.getElem?_eq_some_iff.1 h).1 hs).trans h
set_option maxHeartbeats 8000000 in
theorem begin_first {W : World} {gc gm : Nat} {tv km : Value} {root vmid : Int} (hb : Blk W gc (ccg gm tv root vmid 0 0 km) TC) (h : Hrt) (hf : Fit h) (now : Int) :
    Calls Tryz.prog 38 #[.pointer (some ⟨gc, 0, none⟩), .agg (hc h), .int .u64 now] W fun e w' => ∃ gs, e = .returned (.pointer (some ⟨gs, 0, none⟩)) ∧ W.heap.size ≤ gs ∧ Blk w' gs (sc (newS gc now (ord h))) TS ∧ ∃ r, W.heap.size ≤ r ∧ Blk w' gc (ccg gm tv root vmid 1 0 (.map (some r))) TC ∧ Mod (One gc) W w' ∧ w'.heap[r]? = some (.map kindsE 20) := by
  have TO := Lib.hid (order_any h hf)
  have HC := Lib.hid hb
  have HLT := Lib.hid hb.lt
  clear hb hf
  generalize ord h = h2 at *
  go_enter Tryz.func38, Tryz.ntmps38
  go_wp2_with (first
    | ((with_reducible refine Step.gate_box (t := 36) rfl ?_); refine Step.fresh (cs := #[.pointer (some ⟨gc, 0, none⟩)]) (T := 36) rfl ?hr ?_; (case hr => first | (go_simp; done) | (go_simp; rfl)); intro g3 w1 b hg hb; have HX := Lib.hid b; have HXG := Lib.hid hg; have HM := Lib.hid (Mod.of_below hb (One gc)); replace HC := Lib.hid (HC.out.below hb); clear b hb hg)
    | ((with_reducible refine Step.gate_box (t := 25) rfl ?_); refine Step.fresh (cs := hc h) (T := 25) rfl ?hr2 ?_; (case hr2 => first | (go_simp; done) | (go_simp; rfl)); intro g4 w1 b hg hb; have HH := Lib.hid b; have HG4 := Lib.hid (show W.heap.size ≤ g4 from Nat.le_trans HM.out.size hg); have HHG := Lib.hid (show g3 ≠ g4 from fun e => by have := HX.out.lt; omega); have HHC := Lib.hid (show g4 ≠ gc from fun e => by have := HC.out.lt; omega); replace HX := Lib.hid (HX.out.below hb); replace HM := Lib.hid (HM.out.trans (Mod.of_below hb _)); replace HC := Lib.hid (HC.out.below hb); clear b hb hg)
    | ((with_reducible refine Step.gate_load (t := 36) rfl ?_); refine Step.load (v := .pointer (some ⟨gc, 0, none⟩)) HX.out rfl rfl rfl pl_pc rfl ?_)
    | ((with_reducible refine Step.gate_load (t := 25) rfl ?_); refine Step.loadAll HH.out rfl rfl rfl Tryz.underlying25 rfl (size_hart _) ?_)
    | ((with_reducible refine Step.gate_store (t := 25) rfl ?_); refine Step.storeAll HH.out rfl rfl rfl rfl rfl (size_hart _) rfl (hc_all _) ?_; intro w3 nb m; replace HH := Lib.hid nb; replace HX := Lib.hid (HX.out.one m HHG.out); replace HC := Lib.hid (HC.out.one m HHC.out.symm); replace HM := Lib.hid (HM.out.trans_new m fun k hk e => by have e' : k = g4 := e; exact absurd hk (by have := HG4.out; omega)); replace HK := Lib.hid (heap_mod HK.out m HRG.out); clear nb m)
    | (go_at_call 30; (with_reducible refine (TO.out _).mono ?_); rintro e w' ⟨rfl, hb⟩; replace HX := Lib.hid (HX.out.below hb); replace HH := Lib.hid (HH.out.below hb); replace HM := Lib.hid (HM.out.trans (Mod.of_below hb _)); replace HC := Lib.hid (HC.out.below hb); replace HK := Lib.hid (heap_below HK.out hb); clear hb)
    | ((with_reducible refine gate_buildS (t := 85) rfl ?_); refine Step.value (v := .agg (sc (newS gc now h2))) rfl (build_new rfl rfl rfl rfl rfl _) ?_)
    | ((with_reducible refine Step.gate_box (t := 85) rfl ?_); refine Step.fresh (cs := sc (newS gc now h2)) (T := 85) rfl ?hr ?_; (case hr => first | (go_simp; done) | (go_simp; rfl)); intro g9 w1 b hg hb; have HG := Lib.hid (Nat.le_trans HM.out.size hg); replace HK := Lib.hid (heap_below HK.out hb); replace HM := Lib.hid (HM.out.trans (Mod.of_below hb _)); replace HC := Lib.hid (HC.out.below hb); have HS := Lib.hid b; clear b hb hg)
    | (go_at_call 57; (with_reducible refine (do_first HX.out HC.out (by have := HXG.out; have := HLT.out; omega)).mono ?_); rintro e w' ⟨rfl, r, hr, nb, m, hk⟩; have HR := Lib.hid (Nat.le_trans HM.out.size hr); have HK := Lib.hid hk; have HRG := Lib.hid (show ¬ One g4 r from fun e => by have e' : r = g4 := e; have := HH.out.lt; omega); replace HC := Lib.hid nb; replace HX := Lib.hid (HX.out.one m (by have := HXG.out; have := HLT.out; omega)); replace HH := Lib.hid (HH.out.one m HHC.out); replace HM := Lib.hid (HM.out.trans m); clear hr nb m hk))
  go_ret
  exact ⟨g9, rfl, HG.out, HS.out, r, HR.out, HC.out, HM.out, HK.out⟩
set_option maxHeartbeats 8000000 in
theorem begin_more {W : World} {gc gm : Nat} {tv km : Value} {root vmid : Int} (hb : Blk W gc (ccg gm tv root vmid 1 0 km) TC) (h : Hrt) (hf : Fit h) (now : Int) :
    Calls Tryz.prog 38 #[.pointer (some ⟨gc, 0, none⟩), .agg (hc h), .int .u64 now] W fun e w' => ∃ gs, e = .returned (.pointer (some ⟨gs, 0, none⟩)) ∧ W.heap.size ≤ gs ∧ Blk w' gs (sc (newS gc now (ord h))) TS ∧ Blk w' gc (ccg gm tv root vmid 1 0 km) TC ∧ Mod (One gc) W w' := by
  have TO := Lib.hid (order_any h hf)
  have HC := Lib.hid hb
  have HLT := Lib.hid hb.lt
  clear hb hf
  generalize ord h = h2 at *
  go_enter Tryz.func38, Tryz.ntmps38
  go_wp2_with (first
    | ((with_reducible refine Step.gate_box (t := 36) rfl ?_); refine Step.fresh (cs := #[.pointer (some ⟨gc, 0, none⟩)]) (T := 36) rfl ?hr ?_; (case hr => first | (go_simp; done) | (go_simp; rfl)); intro g3 w1 b hg hb; have HX := Lib.hid b; have HXG := Lib.hid hg; have HM := Lib.hid (Mod.of_below hb (One gc)); replace HC := Lib.hid (HC.out.below hb); clear b hb hg)
    | ((with_reducible refine Step.gate_box (t := 25) rfl ?_); refine Step.fresh (cs := hc h) (T := 25) rfl ?hr2 ?_; (case hr2 => first | (go_simp; done) | (go_simp; rfl)); intro g4 w1 b hg hb; have HH := Lib.hid b; have HG4 := Lib.hid (show W.heap.size ≤ g4 from Nat.le_trans HM.out.size hg); have HHG := Lib.hid (show g3 ≠ g4 from fun e => by have := HX.out.lt; omega); have HHC := Lib.hid (show g4 ≠ gc from fun e => by have := HC.out.lt; omega); replace HX := Lib.hid (HX.out.below hb); replace HM := Lib.hid (HM.out.trans (Mod.of_below hb _)); replace HC := Lib.hid (HC.out.below hb); clear b hb hg)
    | ((with_reducible refine Step.gate_load (t := 36) rfl ?_); refine Step.load (v := .pointer (some ⟨gc, 0, none⟩)) HX.out rfl rfl rfl pl_pc rfl ?_)
    | ((with_reducible refine Step.gate_load (t := 25) rfl ?_); refine Step.loadAll HH.out rfl rfl rfl Tryz.underlying25 rfl (size_hart _) ?_)
    | ((with_reducible refine Step.gate_store (t := 25) rfl ?_); refine Step.storeAll HH.out rfl rfl rfl rfl rfl (size_hart _) rfl (hc_all _) ?_; intro w3 nb m; replace HH := Lib.hid nb; replace HX := Lib.hid (HX.out.one m HHG.out); replace HC := Lib.hid (HC.out.one m HHC.out.symm); replace HM := Lib.hid (HM.out.trans_new m fun k hk e => by have e' : k = g4 := e; exact absurd hk (by have := HG4.out; omega)); clear nb m)
    | (go_at_call 30; (with_reducible refine (TO.out _).mono ?_); rintro e w' ⟨rfl, hb⟩; replace HX := Lib.hid (HX.out.below hb); replace HH := Lib.hid (HH.out.below hb); replace HM := Lib.hid (HM.out.trans (Mod.of_below hb _)); replace HC := Lib.hid (HC.out.below hb); clear hb)
    | ((with_reducible refine gate_buildS (t := 85) rfl ?_); refine Step.value (v := .agg (sc (newS gc now h2))) rfl (build_new rfl rfl rfl rfl rfl _) ?_)
    | ((with_reducible refine Step.gate_box (t := 85) rfl ?_); refine Step.fresh (cs := sc (newS gc now h2)) (T := 85) rfl ?hr ?_; (case hr => first | (go_simp; done) | (go_simp; rfl)); intro g9 w1 b hg hb; have HG := Lib.hid (Nat.le_trans HM.out.size hg); replace HM := Lib.hid (HM.out.trans (Mod.of_below hb _)); replace HC := Lib.hid (HC.out.below hb); have HS := Lib.hid b; clear b hb hg)
    | (go_at_call 57; (with_reducible refine (do_more HC.out).mono ?_); rintro e w' ⟨rfl, rfl⟩))
  go_ret
  exact ⟨g9, rfl, HG.out, HS.out, HC.out, HM.out⟩
/-- A core, before its first step or behind one; its memory. -/
structure Kor (W : World) (gc gm : Nat) (tv : Value) (vmid base : Int) (n : Nat) (mem : Nat → Int) (F : Nat → Prop) : Prop where
  core : (∃ km, Blk W gc (ccg gm tv 0 vmid 0 0 km) TC) ∨ ∃ r, Blk W gc (ccg gm tv 0 vmid 1 0 (.map (some r))) TC ∧ W.heap[r]? = some (.map kindsE 20) ∧ ¬ F r
  ram : Ram W gm base n mem F
  nF : ¬ F gc
theorem Kor.lt {W : World} {gc gm n : Nat} {tv : Value} {vmid base : Int} {mem : Nat → Int} {F : Nat → Prop} (h : Kor W gc gm tv vmid base n mem F) : gc < W.heap.size := by
  rcases h.core with ⟨km, b⟩ | ⟨r, b, _⟩ <;> exact b.lt
theorem Kor.mod {W w : World} {gc gm n : Nat} {tv : Value} {vmid base : Int} {mem : Nat → Int} {F S : Nat → Prop} (h : Kor W gc gm tv vmid base n mem F) (m : Mod S W w) (h1 : ¬ S gc) (h2 : ∀ k, F k → ¬ S k) (h3 : ∀ r, W.heap[r]? = some (.map kindsE 20) → ¬ S r) : Kor w gc gm tv vmid base n mem F :=
  ⟨h.core.imp (fun ⟨km, b⟩ => ⟨km, b.mod m h1⟩) fun ⟨r, b, hk, hr⟩ => ⟨r, b.mod m h1, heap_mod hk m (h3 r hk), hr⟩, h.ram.mod m h2, h.nF⟩
theorem Kor.below {W w : World} {gc gm n : Nat} {tv : Value} {vmid base : Int} {mem : Nat → Int} {F : Nat → Prop} (h : Kor W gc gm tv vmid base n mem F) (b : Below W.heap.size W w) : Kor w gc gm tv vmid base n mem F := h.mod (Mod.of_below b Nil) (fun h => h) (fun _ _ h => h) (fun _ _ h => h)
theorem cell_map {w : World} {g r : Nat} {cs : Array Value} {T : TypeId} {es : Array MapEntry} {c : Nat} (b : Blk w g cs T) (h : w.heap[r]? = some (.map es c)) : g ≠ r := fun e => by
  subst e
  rw [b.out] at h
  cases h
theorem kt_rest (r : Nat) : Rest (fun k => k = r) (KT r (fun _ => True)) := ⟨fun w w' S h m hs => ⟨heap_mod h.1 m (hs r rfl), trivial⟩⟩
theorem begin_any {W : World} {gc gm n : Nat} {tv : Value} {vmid base : Int} {mem : Nat → Int} {F : Nat → Prop} (hk : Kor W gc gm tv vmid base n mem F) (h : Hrt) (hf : Fit h) (now : Int) :
    Calls Tryz.prog 38 #[.pointer (some ⟨gc, 0, none⟩), .agg (hc h), .int .u64 now] W fun e w' => ∃ gs r, e = .returned (.pointer (some ⟨gs, 0, none⟩)) ∧ W.heap.size ≤ gs ∧ Mod (One gc) W w' ∧ ¬ F r ∧ Sy w' gs (newS gc now (ord h)) gm tv 0 vmid (.map (some r)) base n mem F (fun k => k = r) (KT r (fun _ => True)) := by
  have key : ∀ {w' : World} {gs r : Nat}, W.heap.size ≤ gs → Blk w' gs (sc (newS gc now (ord h))) TS → Blk w' gc (ccg gm tv 0 vmid 1 0 (.map (some r))) TC → Mod (One gc) W w' → w'.heap[r]? = some (.map kindsE 20) → ¬ F r → Sy w' gs (newS gc now (ord h)) gm tv 0 vmid (.map (some r)) base n mem F (fun k => k = r) (KT r (fun _ => True)) := by
    intro w' gs r hgs hs hcb m hm hr
    have hlt := hk.lt
    have hram := hk.ram.mod m fun k hkF e => hk.nF ((e : k = gc) ▸ hkF)
    have hbd := hk.ram.bound
    exact ⟨hs, ⟨hcb, hram, kt_rest r, ⟨hm, trivial⟩, hk.nF, cell_map hcb hm, fun k hkF e => hr ((e : k = r) ▸ hkF), fun k e => by have e' : k = r := e; rw [e']; exact (Array.getElem?_eq_some_iff.1 hm).1⟩,
      fun hF => by have := hbd gs hF; omega, cell_map hs hm, fun e => by have e' : gs = gc := e; omega⟩
  rcases hk.core with ⟨km, b⟩ | ⟨r, b, hm, hr⟩
  · refine (begin_first b h hf now).mono ?_
    rintro e w' ⟨gs, he, hgs, hs, r, hrl, hcb, m, hm⟩
    have hr : ¬ F r := fun hF => by have := hk.ram.bound r hF; omega
    exact ⟨gs, r, he, hgs, m, hr, key hgs hs hcb m hm hr⟩
  · refine (begin_more b h hf now).mono ?_
    rintro e w' ⟨gs, he, hgs, hs, hcb, m⟩
    exact ⟨gs, r, he, hgs, m, hr, key hgs hs hcb m (heap_mod hm m fun e => cell_map b hm (e : r = gc).symm) hr⟩
theorem results_rows {P : Program} {fn : Func} {p q : Tmp} {ty ty2 : TypeId} (h : fn.results = #[.cell p ty, .cell q ty2]) (tmps : Array Value) (w : World) (g g2 : Nat) (t t2 : TypeId) (cs cs2 : Array Value) (d d2 : TypeDesc)
    (hp : tmps.getD p undef = .pointer (some ⟨g, 0, none⟩)) (hq : tmps.getD q undef = .pointer (some ⟨g2, 0, none⟩)) (hg : Blk w g cs t) (hg2 : Blk w g2 cs2 t2) (hu : P.underlying ty = some d) (hu2 : P.underlying ty2 = some d2)
    (hd : (match d with | .struct _ | .array _ _ => true | _ => false) = true) (hd2 : (match d2 with | .struct _ | .array _ _ => true | _ => false) = true) (hi : (P.info? ty).map (·.size) = some cs.size) (hi2 : (P.info? ty2).map (·.size) = some cs2.size) :
    (results fn tmps).run P w = .ok (.tuple #[.agg cs, .agg cs2]) w := by
  have h1 := run_loadVar_row (P := P) w g t ty cs (0, 0) d hg.out hu hd hi
  have h2 := run_loadVar_row (P := P) w g2 t2 ty2 cs2 (0, 0) d2 hg2.out hu2 hd2 hi2
  have e : (results fn tmps).run P w = ((asAddr (tmps.getD p undef)).run P w).andThen fun a w₁ => ((loadVar ty a).run P w₁).andThen fun v w₂ => ((asAddr (tmps.getD q undef)).run P w₂).andThen fun a2 w₃ => ((loadVar ty2 a2).run P w₃).andThen fun v2 w₄ => .ok (.tuple #[v, v2]) w₄ := by
    simp only [results, h]
    simp [Sem.run_bind, Result.andThen]
  rw [e, hp, hq]
  simp only [asAddr, Sem.run_pure, Result.andThen_ok, h1, h2]
theorem lays_hc (h h' : Hrt) : lays (hc h) 0 (hc h').toList = hc h' := by
  refine Array.toList_inj.1 ((lays_list _ _ _ (Nat.le_of_ble_eq_true rfl)).trans rfl)
set_option maxHeartbeats 8000000 in
theorem step_any {W : World} {gc gm n : Nat} {tv : Value} {vmid base : Int} {mem mem2 : Nat → Int} {F : Nat → Prop} {s2 : Stp} (hk : Kor W gc gm tv vmid base n mem F) (h : Hrt) (hf : Fit h) (now : Int) (hg2 : s2.gc = gc)
    (HR : ∀ (W' : World) (gs r : Nat), Sy W' gs (newS gc now (ord h)) gm tv 0 vmid (.map (some r)) base n mem F (fun k => k = r) (KT r (fun _ => True)) → Calls Tryz.prog 39 #[.pointer (some ⟨gs, 0, none⟩)] W' fun e w' => e = .returned (.tuple #[]) ∧ Out W' w' gs s2 gm tv 0 vmid (.map (some r)) base n mem2 F (fun k => k = r) (KT r (fun _ => True))) :
    Calls Tryz.prog 23 #[.pointer (some ⟨gc, 0, none⟩), .agg (hc h), .int .u64 now] W fun e w' => e = .returned (.tuple #[.agg (hc s2.h), .agg (ecells s2)]) ∧ ∃ F', Kor w' gc gm tv vmid base n mem2 F' ∧ Mod (fun k => k = gc ∨ F k) W w' ∧ ∀ k, F' k → F k ∨ W.heap.size ≤ k := by
  have HK := Lib.hid hk
  have HF := Lib.hid hf
  replace HR := Lib.hid HR
  have HLT := Lib.hid hk.lt
  have HBD := Lib.hid hk.ram.bound
  clear hk hf
  go_enter Tryz.func23, Tryz.ntmps23
  go_wp2_with (first
    | ((with_reducible refine Step.gate_box (t := 25) rfl ?_); refine Step.fresh (cs := hc h) (T := 25) rfl ?hr ?_; (case hr => first | (go_simp; done) | (go_simp; rfl)); intro g4 w1 b hg hb; have B4 := Lib.hid b; have HB := Lib.hid hb; clear b hb hg)
    | ((with_reducible refine Step.gate_alloc (t := 25) rfl ?_); refine Step.freshAlloc rfl rfl (alloc_agg zero_hart) ?_; intro g6 w2 b hg hb; have B6 := Lib.hid b; have G6 := Lib.hid (Nat.le_trans HB.out.size hg); replace B4 := Lib.hid (B4.out.below hb); replace HB := Lib.hid (below_below HB.out hb); clear b hb hg)
    | ((with_reducible refine Step.gate_alloc (t := 46) rfl ?_); refine Step.freshAlloc rfl rfl (alloc_agg zero_ev) ?_; intro g7 w2 b hg hb; have B7 := Lib.hid b; have G67 := Lib.hid (show g6 ≠ g7 from fun e => by have := B6.out.lt; omega); have G7 := Lib.hid (Nat.le_trans HB.out.size hg); replace B4 := Lib.hid (B4.out.below hb); replace B6 := Lib.hid (B6.out.below hb); replace HB := Lib.hid (below_below HB.out hb); clear b hb hg)
    | ((with_reducible refine Step.gate_load (t := 25) rfl ?_); refine Step.loadAll B4.out rfl rfl rfl Tryz.underlying25 rfl (size_hart _) ?_)
    | (go_at_call 38; (with_reducible refine (begin_any (HK.out.below HB.out) h HF.out now).mono ?_); rintro e wb ⟨gs, r, rfl, hgs, m, hr, hy⟩; have L6 := Lib.hid (Nat.lt_of_lt_of_le B6.out.lt m.size); have L7 := Lib.hid (Nat.lt_of_lt_of_le B7.out.lt m.size); have HS6 := Lib.hid (show g6 ≠ gs from fun e => by have := B6.out.lt; omega); have HS7 := Lib.hid (show g7 ≠ gs from fun e => by have := B7.out.lt; omega); replace B6 := Lib.hid (B6.out.one m (by have := G6.out; have := HLT.out; omega)); replace B7 := Lib.hid (B7.out.one m (by have := G7.out; have := HLT.out; omega)); have HM := Lib.hid ((Mod.of_below HB.out (fun k => k = gc ∨ F k)).trans (m.mono fun k _ e => .inl e)); have HY := Lib.hid hy; have HRF := Lib.hid hr; have HSZ := Lib.hid (Nat.le_trans HB.out.size hgs); clear hgs m hr hy)
    | (go_at_call 39; (with_reducible refine (HR.out _ _ _ HY.out).mono ?_); rintro e wr ⟨rfl, ho⟩; have HO := Lib.hid ho; have HMr := Lib.hid (show Mod (fun k => k = gs ∨ F k) wb wr from ho.choose_spec.2.1); replace B6 := Lib.hid (B6.out.mod HMr.out (fun e => e.elim HS6.out fun hF => by have := HBD.out _ hF; have := G6.out; omega)); replace B7 := Lib.hid (B7.out.mod HMr.out (fun e => e.elim HS7.out fun hF => by have := HBD.out _ hF; have := G7.out; omega)); have BDR := Lib.hid (show Below wr.heap.size wr { wr with drawn := wr.drawn + 1 } from ⟨rfl, rfl, rfl, Nat.le_refl _, fun _ _ => rfl⟩); clear ho)
    | ((with_reducible refine Sq.regionJ (id := 3) (J := fun j X => Blk X gs (sc s2) TS ∧ Blk X g6 (hc (match j with | 0 => zh | _ => s2.h)) 25 ∧ Blk X g7 #[.int .i64 0, .int .i64 0, .int .u64 0, .int .u64 0, .bool false, .bool false] 46 ∧ Mod (One g6) wr X) ?hm6 9 [8] [.keep 0 0, .keep 0 0, .keep 0 0, .keep 0 0, .keep 0 1, .keep 0 1, .keep 0 1, .keep 0 1, .eff 0] ?hi6 ?hp6 ?hf6 ?hs6); (case hm6 => rfl); (case hi6 => exact ⟨HO.out.step.below BDR.out, B6.out.below BDR.out, B7.out.below BDR.out, Mod.of_below BDR.out _⟩); (case hp6 => kernel_rfl); (case hf6 => kernel_rfl); intro ops K hops hK; clear hops; dsimp only [List.take]; (repeat (first | (refine Sq.seqJ_move rfl rfl ?_; simp only [Act.put, Act.eval, Array.getD_eq_getD_getElem?, List.getElem?_toArray, List.getElem?_cons_zero, List.getElem?_cons_succ, Option.getD_some, List.setIfInBounds_toArray, List.set_cons_zero, List.set_cons_succ]) | (refine Sq.seqJ_check rfl rfl rfl ?_; simp only [Act.put, Act.eval, Array.getD_eq_getD_getElem?, List.getElem?_toArray, List.getElem?_cons_zero, List.getElem?_cons_succ, Option.getD_some, List.setIfInBounds_toArray, List.set_cons_zero, List.set_cons_succ]) | (refine Sq.seqJ_row (t := 25) (fun j _ _ X hX => hX.1) (Sq.wanted_none rfl) rfl rfl (fun j => row_h _) Tryz.underlying25 rfl (size_hart _) ?_; simp only [Act.put, Act.eval, Array.getD_eq_getD_getElem?, List.getElem?_toArray, List.getElem?_cons_zero, List.getElem?_cons_succ, Option.getD_some, List.setIfInBounds_toArray, List.set_cons_zero, List.set_cons_succ]) | (refine Sq.seqJ_row (t := 46) (fun j _ _ X hX => hX.1) (Sq.wanted_none rfl) rfl rfl (fun j => row_e _) Tryz.underlying46 rfl size_ev ?_; simp only [Act.put, Act.eval, Array.getD_eq_getD_getElem?, List.getElem?_toArray, List.getElem?_cons_zero, List.getElem?_cons_succ, Option.getD_some, List.setIfInBounds_toArray, List.set_cons_zero, List.set_cons_succ]) | (refine Sq.seqJ_storeRow (cs := hc zh) (vs := hc s2.h) (fun X hX => hX.2.1) rfl rfl rfl rfl rfl (size_hart _) rfl (hc_all _) (fun X X' hX nb m => ?_) ?_; · exact ⟨hX.1.one m HS6.out.symm, (lays_hc zh s2.h) ▸ nb, hX.2.2.1.one m G67.out.symm, hX.2.2.2.trans m⟩) | (refine' Sq.seqJ_pure rfl (fun X => _) _; rotate_left; (first | (go_simp; done) | (go_simp; rfl)); simp only [Act.put, Act.eval, Array.getD_eq_getD_getElem?, List.getElem?_toArray, List.getElem?_cons_zero, List.getElem?_cons_succ, Option.getD_some, List.setIfInBounds_toArray, List.set_cons_zero, List.set_cons_succ]))); refine Sq.seqJ_nil ?_; refine hK.out _ fun w1 hk => ?_; clear hK; have HJ := Lib.hid (show Blk w1 gs (sc s2) TS ∧ Blk w1 g6 (hc s2.h) _ ∧ Blk w1 g7 _ _ ∧ Mod (One g6) wr w1 from hk); clear hk; dsimp only [List.drop])
    | ((with_reducible refine Step.gate_store (t := 46) rfl ?_); refine Step.storeAll (vs := ecells s2) HJ.out.2.2.1 rfl rfl rfl rfl rfl size_ev rfl rfl ?_; intro w3 nb m; have H7 := Lib.hid nb; have H6 := Lib.hid (HJ.out.2.1.one m G67.out); have HM7 := Lib.hid m; clear nb m))
  refine bodyPost_ret (results_rows rfl _ _ g6 g7 _ _ _ _ _ _ rfl rfl H6.out H7.out Tryz.underlying25 Tryz.underlying46 rfl rfl (size_hart _) size_ev) rfl ⟨rfl, ?_⟩
  obtain ⟨F', y, m, c⟩ := HO.out
  have n6 : ∀ k, k < W.heap.size → ¬ One g6 k := fun k hk e => by have e' : k = g6 := e; have := G6.out; omega
  have n7 : ∀ k, k < W.heap.size → ¬ One g7 k := fun k hk e => by have e' : k = g7 := e; have := G7.out; omega
  have hF' : ∀ k, F' k → k ≠ g6 ∧ k ≠ g7 := by
    intro k hk
    have l6 := L6.out
    have l7 := L7.out
    have e6 := G6.out
    have e7 := G7.out
    rcases c k hk with hf | hf
    · have := HBD.out k hf
      exact ⟨by omega, by omega⟩
    · exact ⟨by omega, by omega⟩
  have m6 := HJ.out.2.2.2
  have m7 := HM7.out
  have lg := HLT.out
  have hm := HM.out
  have hsz := HSZ.out
  have r6 : g6 ≠ r := cell_map B6.out y.mc.tlb.1
  have r7 : g7 ≠ r := cell_map B7.out y.mc.tlb.1
  have ct := y.mc.tlb.1
  have cc := y.mc.core
  have cn := y.mc.nF
  have cr := y.mc.ram
  have cf := y.mc.fg r
  rw [hg2] at cc cn
  refine ⟨F', ⟨.inr ⟨r, (cc.mod m6 (n6 gc lg)).mod m7 (n7 gc lg), heap_mod (heap_mod ct m6 fun e => r6 (e : r = g6).symm) m7 fun e => r7 (e : r = g7).symm, fun hr => cf hr rfl⟩, (cr.mod m6 fun k hk e => (hF' k hk).1 e).mod m7 fun k hk e => (hF' k hk).2 e, cn⟩, ?_, fun k hk => (c k hk).imp id fun h => Nat.le_trans hm.size h⟩
  exact ((hm.trans_new m fun i hi e => e.elim (fun e => absurd hi (by omega)) .inr).trans_new m6 fun i hi e => absurd e (n6 i hi)).trans_new m7 fun i hi e => absurd e (n7 i hi)
end Go.Proofs.YthkodjkkcgdmfaaGreat.Hart
end
section
namespace Go.Proofs.YthkodjkkcgdmfaaGreat.Mem
open Go Go.RowKit Go.Proofs.YthkodjkkcgdmfaaGreat.Step
set_option linter.unusedVariables false
set_option linter.unusedSimpArgs false
set_option maxRecDepth 100000
/-- A memory that stands in blocks newer than the call's beginning. -/
structure Own (W w : World) (h : Nat) (base : Int) (n : Nat) (mem : Nat → Int) : Prop where
  ram : Ram w h base n mem (Grow Nil W w)
  mod : Mod Nil W w
theorem Own.below {W w w' : World} {h n : Nat} {base : Int} {mem : Nat → Int} (o : Own W w h base n mem) (b : Below w.heap.size w w') : Own W w' h base n mem :=
  ⟨(o.ram.below b).more (fun k hk => hk.elim .inl fun a => .inr ⟨a.1, Nat.lt_of_lt_of_le a.2 b.size⟩) (Grow.bound (fun k hk => hk.elim) (Nat.le_trans o.mod.size b.size)), o.mod.trans (Mod.of_below b Nil)⟩
theorem Own.drawn {W w w' : World} {h n : Nat} {base : Int} {mem : Nat → Int} (o : Own W w h base n mem) (b : ∃ k, w' = w.drewN k) : Own W w' h base n mem := o.below (below_drawn b)
theorem Own.step {W w w' : World} {h n : Nat} {base : Int} {mem mem' : Nat → Int} (o : Own W w h base n mem) (r : Ram w' h base n mem' (Grow (Grow Nil W w) w w')) (m : Mod (Grow Nil W w) w w') : Own W w' h base n mem' :=
  ⟨r.grow (fun k hk => hk.elim) o.mod.size m.size, mod_grow o.mod m⟩
theorem Own.made {W w w' : World} {h n : Nat} {base : Int} {mem : Nat → Int} (b : Mod Nil W w) (r : Ram w' h base n mem (Grow Nil w w')) (m : Mod Nil w w') : Own W w' h base n mem :=
  ⟨r.more (fun k hk => hk.elim .inl fun a => .inr ⟨Nat.le_trans b.size a.1, a.2⟩) (Grow.bound (fun k hk => hk.elim) (Nat.le_trans b.size m.size)), b.trans m⟩
theorem Own.out {W w : World} {h n : Nat} {base : Int} {mem : Nat → Int} (o : Own W w h base n mem) : Below W.heap.size W w := o.mod.below
theorem tmod_bd (v n : Int) (hn : 0 < n) : -n < v.tmod n ∧ v.tmod n < n := by
  have h1 := Int.tmod_lt_of_pos v hn
  have h2 := Int.tmod_lt_of_pos (-v) hn
  rw [Int.neg_tmod] at h2
  omega
theorem emod_tmod (v n : Int) (hn : 0 < n) : v % n = if v.tmod n < 0 then v.tmod n + n else v.tmod n := by
  have hb := tmod_bd v n hn
  have e := Int.mul_tdiv_add_tmod v n
  have e2 : v % n = v.tmod n % n := by
    conv => lhs; rw [← e]
    rw [Int.mul_add_emod_self_left]
  rw [e2]
  split
  · rw [← Int.add_emod_right, Int.emod_eq_of_lt (by omega) (by omega)]
  · rw [Int.emod_eq_of_lt (by omega) (by omega)]
set_option maxHeartbeats 400000 in
theorem place_any (v n : Int) (hn : 0 < n) (hv : -9223372036854775808 ≤ v ∧ v < 9223372036854775808) (hn2 : n < 9223372036854775808) (w : World) : Calls Tryz.prog 25 #[.int .i64 v, .int .i64 n] w fun e w' => e = .returned (.int .i64 (v % n)) ∧ w = w' := by
  have h0 : n ≠ 0 := by omega
  have hr := tmod_bd v n hn
  have hw : IntKind.i64.wrap (v.tmod n) = v.tmod n := IntWalk.i64_in _ (by omega)
  have he := emod_tmod v n hn
  by_cases hneg : v.tmod n < 0
  · rw [if_pos hneg] at he
    have E := Lib.hid he
    have hw2 : IntKind.i64.wrap (v.tmod n + n) = v.tmod n + n := IntWalk.i64_in _ (by omega)
    clear hr hv hn2 hn he
    go_enter Tryz.func25, Tryz.ntmps25
    go_wp2
    go_ret
    exact ⟨by rw [E.out]; rfl, rfl⟩
  · rw [if_neg hneg] at he
    have E := Lib.hid he
    have d : decide (v.tmod n < 0) = false := by simpa using hneg
    clear hr hv hn2 hn he hneg
    go_enter Tryz.func25, Tryz.ntmps25
    go_wp2
    go_ret
    exact ⟨by rw [E.out]; rfl, rfl⟩
end Go.Proofs.YthkodjkkcgdmfaaGreat.Mem
end
section
namespace Go.Proofs.YthkodjkkcgdmfaaGreat.Mem
open Go Go.RowKit Go.Proofs.YthkodjkkcgdmfaaGreat.Step
set_option linter.unusedVariables false
set_option linter.unusedSimpArgs false
set_option maxRecDepth 100000
/-- A slice's bytes, in blocks of G. -/
def Rd (W : World) (A : Option Addr) (n : Nat) (f : Nat → Int) (G : Nat → Prop) : Prop := ∀ k, k < n → ∃ ad, A = some ad ∧ G ad.block ∧ W.cell? (ad.add k) = some (.int .u8 (f k)) ∧ 0 ≤ f k ∧ f k < 256
theorem block_add (a : Addr) (n : Nat) : (a.add n).block = a.block := by unfold Addr.add; split <;> rfl
theorem Rd.mod {W W' : World} {A : Option Addr} {n : Nat} {f : Nat → Int} {G S : Nat → Prop} (r : Rd W A n f G) (m : Mod S W W') (hs : ∀ k, G k → ¬ S k) (hb : ∀ k, G k → k < W.heap.size) : Rd W' A n f G := fun k hk => by
  obtain ⟨ad, e, hG, hc, hv⟩ := r k hk
  exact ⟨ad, e, hG, (World.cell?_of_block (w := W) (m.block _ (by rw [block_add]; exact hb _ hG) (by rw [block_add]; exact hs _ hG))).trans hc, hv⟩
theorem Rd.below {W W' : World} {A : Option Addr} {n : Nat} {f : Nat → Int} {G : Nat → Prop} (r : Rd W A n f G) (m : Below W.heap.size W W') (hb : ∀ k, G k → k < W.heap.size) : Rd W' A n f G := r.mod (Mod.of_below m Nil) (fun _ _ h => h) hb
theorem Rd.drawn {W W' : World} {A : Option Addr} {n : Nat} {f : Nat → Int} {G : Nat → Prop} (r : Rd W A n f G) (m : ∃ k, W' = W.drewN k) : Rd W' A n f G := by obtain ⟨k, rfl⟩ := m; exact r
theorem Rd.congr {W : World} {A : Option Addr} {n : Nat} {f g : Nat → Int} {G : Nat → Prop} (r : Rd W A n f G) (h : ∀ k, k < n → f k = g k) : Rd W A n g G := fun k hk => by rw [← h k hk]; exact r k hk
theorem Rd.more {W : World} {A : Option Addr} {n : Nat} {f : Nat → Int} {G G' : Nat → Prop} (r : Rd W A n f G) (h : ∀ k, G k → G' k) : Rd W A n f G' := fun k hk => by
  obtain ⟨ad, e, hG, hc⟩ := r k hk
  exact ⟨ad, e, h _ hG, hc⟩
/-- A row of bytes. -/
def row (n : Nat) (f : Nat → Int) : Array Value := (Array.range n).map fun k => .int .u8 (f k)
theorem row_size (n : Nat) (f : Nat → Int) : (row n f).size = n := by simp [row]
theorem row_at (n : Nat) (f : Nat → Int) {k : Nat} (h : k < n) : (row n f)[k]? = some (.int .u8 (f k)) := by simp [row, h]
theorem row_set (n : Nat) (f : Nat → Int) {k : Nat} (v : Int) : (row n f).setIfInBounds k (.int .u8 v) = row n (upd f k v) := by
  apply Array.ext (by simp [row])
  intro i h1 h2
  by_cases e : k = i
  · subst e; simp [row, upd]
  · rw [Array.getElem_setIfInBounds_ne (by simpa [row] using h2) e]
    simp [row, upd, Ne.symm e]
theorem row_zero (n : Nat) : Array.replicate n (Value.int .u8 0) = row n fun _ => 0 := by
  apply Array.ext (by simp [row])
  intro i h1 h2
  simp [row]
/-- Bytes, filled in. -/
def fl (mem : Nat → Int) (off len : Nat) (f : Nat → Int) : Nat → Int := fun i => if off ≤ i ∧ i < off + len then f (i - off) else mem i
theorem fl_zero (mem : Nat → Int) (off : Nat) (f : Nat → Int) : fl mem off 0 f = mem := funext fun i => if_neg (by omega)
theorem fl_succ (mem : Nat → Int) (off k : Nat) (f : Nat → Int) : upd (fl mem off k f) (off + k) (f k) = fl mem off (k + 1) f := by
  funext i
  unfold upd fl
  by_cases h : i = off + k
  · subst h; rw [if_pos rfl, if_pos (by omega), Nat.add_sub_cancel_left]
  · rw [if_neg h]
    by_cases h2 : off ≤ i ∧ i < off + k
    · rw [if_pos h2, if_pos (by omega)]
    · rw [if_neg h2, if_neg (by omega)]
set_option maxHeartbeats 1000000 in
theorem fill_yes {W : World} {h n : Nat} {base : Int} {mem : Nat → Int} {F G : Nat → Prop} (r : Ram W h base n mem F) (addr : Int) {A : Option Addr} {s c : Nat} {f : Nat → Int} (rb : Rd W A s f G) (hG : ∀ k, G k → ¬ F k ∧ k < W.heap.size) (ha : 0 ≤ addr ∧ addr < 18446744073709551616) (h2 : hasB base n addr s = true) :
    Calls Tryz.prog 80 #[.pointer (some ⟨h, 0, none⟩), .int .u64 addr, .slice A s c] W fun e W' => e = .returned (.bool true) ∧ Ram W' h base n (fl mem (addr - base).toNat s f) (Grow F W W') ∧ Mod F W W' := by
  obtain ⟨hh1, hh2, hh3⟩ := of_decide_eq_true h2
  obtain ⟨n1, n2, b1, b2⟩ := r.size
  have hs9 : (s : Int) < 9223372036854775808 := by omega
  have T2 := Lib.hid ((has_any r addr s ha hs9).mono fun e w' h => (by rw [h2] at h; exact h : e = .returned (.bool true) ∧ ∃ k, w' = W.drewN k))
  have R := Lib.hid r
  have RB := Lib.hid rb
  have HG := Lib.hid hG
  obtain ⟨ha1, ha2⟩ := ha
  have s1 : s ≤ 4194304 := by omega
  clear h2 r hs9 rb hG
  go_enter Tryz.func80, Tryz.ntmps80
  go_wp2_with (first
    | (go_at_call 65; refine (T2.out).mono ?_; rintro e w1 ⟨rfl, hw⟩; have R1 := Lib.hid (R.out.drawn hw); have HW := Lib.hid (below_drawn hw); clear hw))
  go_loopw [7, 8, 17] (fun x y i W1 => ∃ k : Nat, k ≤ s ∧ i = .int .i64 k ∧ Ram W1 h base n (fl mem (addr - base).toNat k f) (Grow F W W1) ∧ Mod F W W1) (fun _ _ i _ => (s - intOf i).toNat)
  case atStart =>
    refine ⟨0, Nat.zero_le _, rfl, ?_, ?_⟩
    · rw [fl_zero]; exact R1.out.more (fun k hk => .inl hk) (Grow.bound R.out.bound HW.out.size)
    · exact Mod.of_below HW.out F
  case round =>
    obtain ⟨k, hk, rfl, hR, hM⟩ := hrel
    by_cases hlt : k < s
    · obtain ⟨ad, rfl, _, hc, hf⟩ := (RB.out.mod hM (fun i hi => (HG.out i hi).1) (fun i hi => (HG.out i hi).2)) k hlt
      have T3 := Lib.hid (put hR (addr + k) (f k) (by omega) (by omega) hf)
      have hsz := Lib.hid hM.size
      have HM := Lib.hid hM
      clear hR hM hf
      go_wp2_with (go_at_call 79; refine (T3.out).mono ?_; rintro e w2 ⟨rfl, hR, hM⟩; have HR2 := Lib.hid hR; have HM2 := Lib.hid hM; clear hR hM)
      refine ⟨⟨k + 1, by omega, by go_num, ?_, mod_grow HM.out HM2.out⟩, by simp [intOf]; omega⟩
      have := (HR2.out.grow R.out.bound hsz.out HM2.out.size)
      rw [show (addr + (k : Int) - base).toNat = (addr - base).toNat + k by omega, fl_succ] at this
      exact this
    · obtain rfl : k = s := by omega
      have HR := Lib.hid hR
      have HM := Lib.hid hM
      clear hR hM
      go_wp2
      go_ret
      exact ⟨rfl, HR.out, HM.out⟩
end Go.Proofs.YthkodjkkcgdmfaaGreat.Mem
end
section
namespace Go.Proofs.YthkodjkkcgdmfaaGreat.Mem
open Go Go.RowKit Go.Proofs.YthkodjkkcgdmfaaGreat.Step
set_option linter.unusedVariables false
set_option linter.unusedSimpArgs false
set_option maxRecDepth 100000
/-- The first k frames of a content. -/
def first (mem : Nat → Int) (k : Nat) : Nat → Int := fun i => if i < k * 4096 then mem i else 0
end Go.Proofs.YthkodjkkcgdmfaaGreat.Mem
end
section
namespace Go.Proofs.YthkodjkkcgdmfaaGreat.Mem
open Go Go.RowKit Go.Proofs.YthkodjkkcgdmfaaGreat.Step
set_option linter.unusedVariables false
set_option linter.unusedSimpArgs false
set_option maxRecDepth 100000
/-- Two memories of the call's own. -/
structure Pair (W w : World) (h1 : Nat) (b1 : Int) (n1 : Nat) (m1 : Nat → Int) (h2 : Nat) (b2 : Int) (n2 : Nat) (m2 : Nat → Int) (F1 F2 : Nat → Prop) : Prop where
  one : Ram w h1 b1 n1 m1 F1
  two : Ram w h2 b2 n2 m2 F2
  apart : ∀ k, F1 k → ¬ F2 k
  new : ∀ k, F1 k ∨ F2 k → W.heap.size ≤ k
  mod : Mod Nil W w
theorem Pair.below {W w w' : World} {h1 n1 h2 n2 : Nat} {b1 b2 : Int} {m1 m2 : Nat → Int} {F1 F2 : Nat → Prop} (p : Pair W w h1 b1 n1 m1 h2 b2 n2 m2 F1 F2) (b : Below w.heap.size w w') : Pair W w' h1 b1 n1 m1 h2 b2 n2 m2 F1 F2 :=
  ⟨p.one.below b, p.two.below b, p.apart, p.new, p.mod.trans (Mod.of_below b Nil)⟩
theorem Pair.drawn {W w w' : World} {h1 n1 h2 n2 : Nat} {b1 b2 : Int} {m1 m2 : Nat → Int} {F1 F2 : Nat → Prop} (p : Pair W w h1 b1 n1 m1 h2 b2 n2 m2 F1 F2) (b : ∃ k, w' = w.drewN k) : Pair W w' h1 b1 n1 m1 h2 b2 n2 m2 F1 F2 := p.below (below_drawn b)
/-- One memory of the call's own. -/
structure Solo (W w : World) (h : Nat) (b : Int) (n : Nat) (mem : Nat → Int) (F : Nat → Prop) : Prop where
  ram : Ram w h b n mem F
  new : ∀ k, F k → W.heap.size ≤ k
  mod : Mod Nil W w
theorem Solo.made {W w w' : World} {h n : Nat} {b : Int} {mem : Nat → Int} (m0 : Mod Nil W w) (r : Ram w' h b n mem (Grow Nil w w')) (m : Mod Nil w w') : Solo W w' h b n mem (Grow Nil w w') :=
  ⟨r, fun k hk => hk.elim (fun h => h.elim) fun h => Nat.le_trans m0.size h.1, m0.trans m⟩
theorem Solo.below {W w w' : World} {h n : Nat} {b : Int} {mem : Nat → Int} {F : Nat → Prop} (s : Solo W w h b n mem F) (m : Below w.heap.size w w') : Solo W w' h b n mem F := ⟨s.ram.below m, s.new, s.mod.trans (Mod.of_below m Nil)⟩
theorem Solo.drawn {W w w' : World} {h n : Nat} {b : Int} {mem : Nat → Int} {F : Nat → Prop} (s : Solo W w h b n mem F) (m : ∃ k, w' = w.drewN k) : Solo W w' h b n mem F := s.below (below_drawn m)
theorem Solo.step {W w w' : World} {h n : Nat} {b : Int} {mem mem' : Nat → Int} {F : Nat → Prop} (s : Solo W w h b n mem F) (r : Ram w' h b n mem' (Grow F w w')) (m : Mod F w w') : Solo W w' h b n mem' (Grow F w w') :=
  ⟨r, fun k hk => hk.elim (s.new k) fun h => Nat.le_trans s.mod.size h.1, s.mod.trans_new m fun i hi h => by have := s.new i h; omega⟩
/-- Something newer is turned. -/
theorem Solo.other {W w w' : World} {h n : Nat} {b : Int} {mem : Nat → Int} {F S : Nat → Prop} (s : Solo W w h b n mem F) (m : Mod S w w') (hs : ∀ k, F k → ¬ S k) (hn : ∀ k, S k → W.heap.size ≤ k) : Solo W w' h b n mem F :=
  ⟨s.ram.mod m hs, s.new, s.mod.trans_new m fun i hi h => by have := hn i h; omega⟩
theorem Solo.out {W w : World} {h n : Nat} {b : Int} {mem : Nat → Int} {F : Nat → Prop} (s : Solo W w h b n mem F) : Below W.heap.size W w := s.mod.below
theorem Pair.made {W w w' : World} {h1 n1 h2 n2 : Nat} {b1 b2 : Int} {m1 m2 : Nat → Int} {F : Nat → Prop} (s : Solo W w h1 b1 n1 m1 F) (r : Ram w' h2 b2 n2 m2 (Grow Nil w w')) (b : Below w.heap.size w w') : Pair W w' h1 b1 n1 m1 h2 b2 n2 m2 F (Grow Nil w w') :=
  ⟨s.ram.below b, r, fun k h1 h2 => by
      have := s.ram.bound k h1
      rcases h2 with h2 | h2
      · exact h2
      · omega, fun k hk => by
      rcases hk with h | (h | h)
      · exact s.new k h
      · exact h.elim
      · exact Nat.le_trans s.mod.size h.1, s.mod.trans (Mod.of_below b Nil)⟩
theorem Pair.out {W w : World} {h1 n1 h2 n2 : Nat} {b1 b2 : Int} {m1 m2 : Nat → Int} {F1 F2 : Nat → Prop} (p : Pair W w h1 b1 n1 m1 h2 b2 n2 m2 F1 F2) : Below W.heap.size W w := p.mod.below
theorem Pair.step1 {W w w' : World} {h1 n1 h2 n2 : Nat} {b1 b2 : Int} {m1 m2 m1' : Nat → Int} {F1 F2 : Nat → Prop} (p : Pair W w h1 b1 n1 m1 h2 b2 n2 m2 F1 F2) (r : Ram w' h1 b1 n1 m1' (Grow F1 w w')) (m : Mod F1 w w') : Pair W w' h1 b1 n1 m1' h2 b2 n2 m2 (Grow F1 w w') F2 :=
  ⟨r, p.two.mod m (fun k h2 h1 => p.apart k h1 h2), fun k h1 h2 => by
      rcases h1 with h1 | h1
      · exact p.apart k h1 h2
      · have := p.two.bound k h2; omega, fun k hk => by
      rcases hk with (h | h) | h
      · exact p.new k (.inl h)
      · exact Nat.le_trans p.mod.size h.1
      · exact p.new k (.inr h), p.mod.trans_new m fun i hi h => by have := p.new i (.inl h); omega⟩
theorem make_u8 (n : Nat) (hn : n ≤ 100000000000) (w : World) : (Instr.makeSlice 66 (.int .i64 n) (.int .i64 n)).run Tryz.prog w = .ok (.slice (some ⟨w.heap.size, 0, none⟩) n n) (w.alloc (.cells (row n fun _ => 0) 5 (0, 0))) := by
  have h := mk_u8
  cases hi' : Tryz.prog.info? 5 with
  | none => rw [hi'] at h; cases h
  | some i =>
    rw [hi'] at h
    simp only [Option.map_some, Option.some.injEq, Prod.mk.injEq] at h
    obtain ⟨h1, h2, h3⟩ := h
    have hr := run_make (P := Tryz.prog) w 66 5 i _ Tryz.underlying66 hi' h3 .i64 .i64 n n (by omega) (Int.le_refl _) (by rw [h2]; omega) (by omega)
    simp only [Int.toNat_natCast, h1, Nat.mul_one, Value.cells, madeCells_one, row_zero] at hr
    exact hr
end Go.Proofs.YthkodjkkcgdmfaaGreat.Mem
end
section
namespace Go.Proofs.YthkodjkkcgdmfaaGreat.Ref
open Go Go.RowKit Go.Proofs.YthkodjkkcgdmfaaGreat.Step Go.Proofs.YthkodjkkcgdmfaaGreat.Mem
set_option linter.unusedVariables false
set_option linter.unusedSimpArgs false
set_option maxRecDepth 100000
def sl : Option (Nat × Nat) → Value
  | none => .slice none 0 0
  | some (g, c) => .slice (some ⟨g, 0, none⟩) 4096 c
theorem eql_nil (w : World) : (binOp .eql 66 (.slice none 0 0) (.slice none 0 0)).run Tryz.prog w = .ok (.bool true) w := by
  have := run_equal_slice_nil (P := Tryz.prog) w 66 _ none 0 0 Tryz.underlying66
  simp [binOp, this, Result.andThen]
theorem eql_some (w : World) (ad : Addr) (n c : Nat) : (binOp .eql 66 (.slice (some ad) n c) (.slice none 0 0)).run Tryz.prog w = .ok (.bool false) w := by
  have := run_equal_slice_nil (P := Tryz.prog) w 66 _ (some ad) n c Tryz.underlying66
  simp [binOp, this, Result.andThen]
set_option maxHeartbeats 1000000 in
theorem put_old (W : World) (h fb n g c : Nat) (base addr v : Int) (cs bs : Array Value) (k j : Nat) (hb : 0 ≤ base) (ha : base ≤ addr) (ha2 : addr < 18446744073709551616) (hk : (addr - base) / 4096 = (k : Int)) (hj : (addr - base) % 4096 = (j : Int)) (hjn : j < 4096) (hkn : k < n) (hn : n ≤ 1024)
    (b0 : Step.Blk W h #[.int .u64 base, .int .i64 n, .slice (some ⟨fb, 0, none⟩) n n] 88) (b1 : Step.Blk W fb cs 66) (ck : cs[k]? = some (.slice (some ⟨g, 0, none⟩) 4096 c)) (b2 : Step.Blk W g bs 5) (hbs : 4096 ≤ bs.size) :
    Calls Tryz.prog 49 #[.pointer (some ⟨h, 0, none⟩), .int .u64 addr, .int .u8 v] W fun e W' => e = .returned (.tuple #[]) ∧ Step.Blk W' g (bs.setIfInBounds j (.int .u8 v)) 5 ∧ Step.Mod (Step.One g) W W' := by
  have hs : IntKind.u64.wrap (addr - base) = addr - base := IntWalk.u64_in _ (by omega)
  have hu35 := eql_nil
  have hu36 := eql_some
  have c0 := b0.cell 0
  have c1 := b0.cell 2
  have ck' := (b1.cell k).trans ck
  have B2 := Lib.hid b2
  have HJ2 := Lib.hid (show Nat.blt j bs.size = true from Nat.ble_eq_true_of_le (by omega))
  clear hbs b0 b1 ck b2
  simp only [List.getElem?_toArray, List.getElem?_cons_zero, List.getElem?_cons_succ] at c0 c1
  go_enter Tryz.func49, Tryz.ntmps49
  go_wp2_with (first
    | ((with_reducible refine Step.gate_store (t := 5) rfl ?_); refine Step.store B2.out rfl rfl rfl rfl rfl pl_u8 rfl HJ2.out ?_; intro w1 n2 m; have N2 := Lib.hid n2; have M := Lib.hid m; clear n2 m))
  go_end0
  exact ⟨rfl, N2.out, M.out⟩
theorem make_4096 (w : World) : (Instr.makeSlice 66 (.int .i64 4096) (.int .i64 4096)).run Tryz.prog w = .ok (.slice (some ⟨w.heap.size, 0, none⟩) 4096 4096) (w.alloc (.cells (row 4096 fun _ => 0) 5 (0, 0))) := make_u8 4096 (by omega) w
set_option maxHeartbeats 1000000 in
theorem put_new (W : World) (h fb n : Nat) (base addr v : Int) (cs : Array Value) (k j : Nat) (hb : 0 ≤ base) (ha : base ≤ addr) (ha2 : addr < 18446744073709551616) (hk : (addr - base) / 4096 = (k : Int)) (hj : (addr - base) % 4096 = (j : Int)) (hjn : j < 4096) (hkn : k < n) (hn : n ≤ 1024)
    (b0 : Step.Blk W h #[.int .u64 base, .int .i64 n, .slice (some ⟨fb, 0, none⟩) n n] 88) (b1 : Step.Blk W fb cs 66) (hcs : cs.size = n) (hne : h ≠ fb) (ck : cs[k]? = some (.slice none 0 0)) :
    Calls Tryz.prog 49 #[.pointer (some ⟨h, 0, none⟩), .int .u64 addr, .int .u8 v] W fun e W' => e = .returned (.tuple #[]) ∧ ∃ g, Step.Blk W' g (row 4096 (upd (fun _ => 0) j v)) 5 ∧ Step.Blk W' fb (cs.setIfInBounds k (.slice (some ⟨g, 0, none⟩) 4096 4096)) 66 ∧ W.heap.size ≤ g ∧ Step.Mod (Step.One fb) W W' := by
  have hs : IntKind.u64.wrap (addr - base) = addr - base := IntWalk.u64_in _ (by omega)
  have hu35 := eql_nil
  have hu36 := eql_some
  have c0 := b0.cell 0
  have c1 := b0.cell 2
  have ck' := (b1.cell k).trans ck
  have lt0 := b0.lt
  have lt1 := b1.lt
  have B0 := Lib.hid b0
  have B1 := Lib.hid b1
  have HK2 := Lib.hid (show Nat.blt k cs.size = true by rw [hcs]; exact Nat.ble_eq_true_of_le hkn)
  have HMK := make_4096
  have fz : ∀ o, ((W.alloc o).drew).frozen? ⟨fb, k, none⟩ = false := fun o => ((b1.below (alloc_below W o)).frozen k)
  have hne2 : (⟨h, 2, none⟩ : Addr) ≠ ⟨fb, k, none⟩ := fun e => hne (congrArg Addr.block e)
  have hne3 : ¬ h = fb := hne
  have fz3 : ∀ o, (W.alloc o).frozen? ⟨fb, k, none⟩ = false := fun o => ((b1.below (alloc_below W o)).frozen k)
  have hkeep : ∀ v o, (((W.setCell ⟨fb, k, none⟩ v).alloc o).drew).cell? ⟨h, 2, none⟩ = some (.slice (some ⟨fb, 0, none⟩) n n) := fun v o => ((((b0.one (setCell_mod W fb k v) hne).below (alloc_below _ o)).cell 2).trans rfl : _)
  clear b0 b1 ck hcs
  simp only [List.getElem?_toArray, List.getElem?_cons_zero, List.getElem?_cons_succ] at c0 c1
  go_enter Tryz.func49, Tryz.ntmps49
  go_wp2
  go_region_held3 (fun w' => w'.cell? ⟨h, 2, none⟩ = some (.slice (some ⟨fb, 0, none⟩) n n)) (first | go_keep | exact hkeep _ _) (fail)
  rename_i hHeld
  have hsz : (W.setCell ⟨fb, k, none⟩ (.slice (some ⟨W.heap.size, 0, none⟩) 4096 4096)).heap.size = W.heap.size := by simp [World.setCell]
  have al : Below (W.setCell ⟨fb, k, none⟩ (.slice (some ⟨W.heap.size, 0, none⟩) 4096 4096)).heap.size (W.setCell ⟨fb, k, none⟩ (.slice (some ⟨W.heap.size, 0, none⟩) 4096 4096)) ((W.setCell ⟨fb, k, none⟩ (.slice (some ⟨W.heap.size, 0, none⟩) 4096 4096)).alloc (.cells (row 4096 fun _ => 0) 5 (0, 0))).drew := (alloc_below _ _).drew
  obtain ⟨W2, hW2⟩ : ∃ W2, W2 = ((W.setCell ⟨fb, k, none⟩ (.slice (some ⟨W.heap.size, 0, none⟩) 4096 4096)).alloc (.cells (row 4096 fun _ => 0) 5 (0, 0))).drew := ⟨_, rfl⟩
  have m1 : Step.Mod (Step.One fb) W W2 := by rw [hW2]; exact (setCell_mod W fb k _).trans (Mod.of_below al _)
  have bf : Step.Blk W2 fb (cs.setIfInBounds k (.slice (some ⟨W.heap.size, 0, none⟩) 4096 4096)) 66 := by rw [hW2]; exact (setCell_out W fb k _ cs _ B1.out).below al
  have bg : Step.Blk W2 W.heap.size (row 4096 fun _ => 0) 5 := by
    have := (alloc_out (W.setCell ⟨fb, k, none⟩ (.slice (some ⟨W.heap.size, 0, none⟩) 4096 4096)) (row 4096 fun _ => 0) 5)
    rw [hsz] at this
    rw [hW2]; exact ⟨this.out⟩
  have d2 := ((B0.out.one m1 hne).cell 2)
  have dk := bf.cell k
  rw [Array.getElem?_setIfInBounds_self_of_lt (Nat.le_of_ble_eq_true HK2.out)] at dk
  simp only [List.getElem?_toArray, List.getElem?_cons_zero, List.getElem?_cons_succ] at d2
  have M1 := Lib.hid m1
  have BF := Lib.hid bf
  have BG := Lib.hid bg
  have HJ := Lib.hid (show Nat.blt j (row 4096 fun _ => 0).size = true by rw [row_size]; exact Nat.ble_eq_true_of_le hjn)
  have lf := Lib.hid lt1
  rw [← hW2]
  clear hW2 m1 bf bg al hsz hHeld hne2 hne3 c0 c1 ck' HMK fz fz3 hkeep
  go_wp2_with (first
    | ((with_reducible refine Step.gate_store (t := 5) rfl ?_); refine Step.store BG.out rfl rfl rfl rfl rfl pl_u8 rfl HJ.out ?_; intro w1 n2 m; have N2 := Lib.hid n2; have M := Lib.hid m; clear n2 m))
  go_end0
  have lf' := lf.out
  refine ⟨rfl, W.heap.size, ?_, BF.out.one M.out (by omega), Nat.le_refl _, M1.out.trans_new M.out fun i hi e => by obtain rfl : i = W.heap.size := e; omega⟩
  have nb : Step.Blk w1 W.heap.size ((row 4096 fun _ => 0).setIfInBounds j (.int .u8 v)) 5 := N2.out
  rwa [row_set] at nb
end Go.Proofs.YthkodjkkcgdmfaaGreat.Ref
end
section
namespace Go.Proofs.YthkodjkkcgdmfaaGreat.Ref
open Go Go.RowKit Go.Proofs.YthkodjkkcgdmfaaGreat.Step Go.Proofs.YthkodjkkcgdmfaaGreat.Mem
set_option linter.unusedVariables false
set_option linter.unusedSimpArgs false
set_option maxRecDepth 100000
structure MemIn (W : World) (h fb : Nat) (cs : Array Value) (fs : Nat → Option (Nat × Nat)) (base : Int) (n : Nat) (mem : Nat → Int) (F : Nat → Prop) : Prop where
  hdr : Blk W h #[.int .u64 base, .int .i64 n, .slice (some ⟨fb, 0, none⟩) n n] 88
  row : Blk W fb cs 66
  csz : cs.size = n
  n_lo : 1 ≤ n
  n_hi : n ≤ 1024
  b_lo : 0 ≤ base
  b_hi : base ≤ 4503599627370496
  at_ : ∀ k, k < n → cs[k]? = some (sl (fs k))
  frame : ∀ k g c, k < n → fs k = some (g, c) → F g ∧ ∃ bs, Blk W g bs 5 ∧ 4096 ≤ bs.size ∧ ∀ j, j < 4096 → bs[j]? = some (.int .u8 (mem (k * 4096 + j)))
  none_ : ∀ k, k < n → fs k = none → ∀ j, j < 4096 → mem (k * 4096 + j) = 0
  inj : ∀ k k' g c c', k < n → k' < n → fs k = some (g, c) → fs k' = some (g, c') → k = k'
  foot_h : F h
  foot_fb : F fb
  bound : ∀ k, F k → k < W.heap.size
  byte : ∀ i, i < n * 4096 → 0 ≤ mem i ∧ mem i < 256
def Mem (W : World) (h : Nat) (base : Int) (n : Nat) (mem : Nat → Int) (F : Nat → Prop) : Prop := ∃ fb cs fs, MemIn W h fb cs fs base n mem F
theorem Mem.mod {W W' : World} {h n : Nat} {base : Int} {mem : Nat → Int} {F S : Nat → Prop} (r : Mem W h base n mem F) (m : Mod S W W') (hs : ∀ k, F k → ¬ S k) : Mem W' h base n mem F := by
  obtain ⟨fb, cs, fs, r⟩ := r
  exact ⟨fb, cs, fs, { r with hdr := r.hdr.mod m (hs _ r.foot_h), row := r.row.mod m (hs _ r.foot_fb), frame := fun k g c hk hf => (by
    obtain ⟨hF, bs, hb, h2⟩ := r.frame k g c hk hf
    exact ⟨hF, bs, hb.mod m (hs _ hF), h2⟩), bound := fun k hk => Nat.lt_of_lt_of_le (r.bound k hk) m.size }⟩
theorem Mem.below {W W' : World} {h n : Nat} {base : Int} {mem : Nat → Int} {F : Nat → Prop} (r : Mem W h base n mem F) (m : Below W.heap.size W W') : Mem W' h base n mem F := r.mod (Mod.of_below m Nil) fun _ _ h => h
theorem Mem.drawn {W W' : World} {h n : Nat} {base : Int} {mem : Nat → Int} {F : Nat → Prop} (r : Mem W h base n mem F) (hw : ∃ k, W' = W.drewN k) : Mem W' h base n mem F := r.below (below_drawn hw)
theorem Mem.bound {W : World} {h n : Nat} {base : Int} {mem : Nat → Int} {F : Nat → Prop} (r : Mem W h base n mem F) : ∀ k, F k → k < W.heap.size := by obtain ⟨fb, cs, fs, r⟩ := r; exact r.bound
theorem Mem.size {W : World} {h n : Nat} {base : Int} {mem : Nat → Int} {F : Nat → Prop} (r : Mem W h base n mem F) : 1 ≤ n ∧ n ≤ 1024 ∧ 0 ≤ base ∧ base ≤ 4503599627370496 := by obtain ⟨fb, cs, fs, r⟩ := r; exact ⟨r.n_lo, r.n_hi, r.b_lo, r.b_hi⟩
theorem Mem.byte {W : World} {h n : Nat} {base : Int} {mem : Nat → Int} {F : Nat → Prop} (r : Mem W h base n mem F) {i : Nat} (hi : i < n * 4096) : 0 ≤ mem i ∧ mem i < 256 := by obtain ⟨fb, cs, fs, r⟩ := r; exact r.byte i hi
theorem Mem.more {W : World} {h n : Nat} {base : Int} {mem : Nat → Int} {F F' : Nat → Prop} (r : Mem W h base n mem F) (hF : ∀ k, F k → F' k) (hb : ∀ k, F' k → k < W.heap.size) : Mem W h base n mem F' := by
  obtain ⟨fb, cs, fs, r⟩ := r
  exact ⟨fb, cs, fs, { r with frame := fun k g c hk hf => ⟨hF _ (r.frame k g c hk hf).1, (r.frame k g c hk hf).2⟩, foot_h := hF _ r.foot_h, foot_fb := hF _ r.foot_fb, bound := hb }⟩
theorem Mem.grow {W W1 W2 : World} {h n : Nat} {base : Int} {mem : Nat → Int} {F : Nat → Prop} (r : Mem W2 h base n mem (Grow (Grow F W W1) W1 W2)) (hF : ∀ k, F k → k < W.heap.size) (h1 : W.heap.size ≤ W1.heap.size) (h2 : W1.heap.size ≤ W2.heap.size) : Mem W2 h base n mem (Grow F W W2) :=
  r.more (Grow.grow h1 h2) (Grow.bound hF (Nat.le_trans h1 h2))
theorem Mem.cells {W : World} {h n : Nat} {base : Int} {mem : Nat → Int} {F : Nat → Prop} (r : Mem W h base n mem F) : ∃ fb : Nat, W.cell? ⟨h, 0, none⟩ = some (.int .u64 base) ∧ W.cell? ⟨h, 1, none⟩ = some (.int .i64 n) ∧ W.cell? ⟨h, 2, none⟩ = some (.slice (some ⟨fb, 0, none⟩) n n) := by
  obtain ⟨fb, cs, fs, r⟩ := r
  have c0 := r.hdr.cell 0
  have c1 := r.hdr.cell 1
  have c2 := r.hdr.cell 2
  simp only [List.getElem?_toArray, List.getElem?_cons_zero, List.getElem?_cons_succ] at c0 c1 c2
  exact ⟨fb, c0, c1, c2⟩
theorem put {W : World} {h n : Nat} {base : Int} {mem : Nat → Int} {F : Nat → Prop} (r : Mem W h base n mem F) (addr v : Int) (ha : base ≤ addr) (hb : addr < base + n * 4096) (hv : 0 ≤ v ∧ v < 256) :
    Calls Tryz.prog 49 #[.pointer (some ⟨h, 0, none⟩), .int .u64 addr, .int .u8 v] W fun e W' => e = .returned (.tuple #[]) ∧ Mem W' h base n (upd mem (addr - base).toNat v) (Grow F W W') ∧ Mod F W W' := by
  obtain ⟨fb, cs, fs, r⟩ := r
  obtain ⟨k, j, hk, hj, hj4, hkn, ho⟩ := offs ha hb
  have := r.n_hi
  have := r.b_hi
  have hne : h ≠ fb := fun e => by subst e; have := (r.hdr.inj r.row).2; revert this; decide
  have hbyte : ∀ i, i < n * 4096 → 0 ≤ upd mem (k * 4096 + j) v i ∧ upd mem (k * 4096 + j) v i < 256 := fun i hi => by
    unfold upd; split
    · exact hv
    · exact r.byte i hi
  rw [ho]
  cases hf : fs k with
  | some p =>
    obtain ⟨g, c⟩ := p
    obtain ⟨hF, bs, hb, hsz, hbs⟩ := r.frame k g c hkn hf
    have ck := r.at_ k hkn
    rw [hf] at ck
    refine (put_old W h fb n g c base addr v cs bs k j r.b_lo ha (by omega) hk hj hj4 hkn r.n_hi r.hdr r.row ck hb hsz).mono ?_
    rintro e W' ⟨rfl, hb', m⟩
    have gh : h ≠ g := fun e => by subst e; have := (r.hdr.inj hb).2; revert this; decide
    have gf : fb ≠ g := fun e => by subst e; have := (r.row.inj hb).2; revert this; decide
    refine ⟨rfl, ⟨fb, cs, fs, ?_⟩, m.mono fun i _ e => by obtain rfl : i = g := e; exact hF⟩
    refine { hdr := r.hdr.one m gh, row := r.row.one m gf, csz := r.csz, n_lo := r.n_lo, n_hi := r.n_hi, b_lo := r.b_lo, b_hi := r.b_hi, at_ := r.at_, frame := fun k' g' c' hk' hf' => ?_, none_ := fun k' hk' hf' j' hj' => ?_, inj := r.inj, foot_h := .inl r.foot_h, foot_fb := .inl r.foot_fb, bound := Grow.bound r.bound m.size, byte := hbyte }
    · obtain ⟨hF', bs', hb2, hsz', hbs'⟩ := r.frame k' g' c' hk' hf'
      refine ⟨.inl hF', ?_⟩
      by_cases e : g' = g
      · subst e
        obtain rfl := r.inj k' k g' c' c hk' hkn hf' hf
        refine ⟨_, hb', by simpa using hsz, fun j' hj' => ?_⟩
        unfold upd
        by_cases ej : j = j'
        · subst ej; rw [if_pos rfl]; simp [show j < bs.size by omega]
        · rw [if_neg (by omega), Array.getElem?_setIfInBounds_ne ej]; exact hbs j' hj'
      · refine ⟨bs', hb2.one m e, hsz', fun j' hj' => ?_⟩
        have : k' ≠ k := fun ek => e (by subst ek; rw [hf] at hf'; exact (congrArg Prod.fst (Option.some.inj hf')).symm)
        unfold upd
        rw [if_neg (by omega)]; exact hbs' j' hj'
    · have : k' ≠ k := fun ek => by subst ek; rw [hf] at hf'; cases hf'
      unfold upd
      rw [if_neg (by omega)]; exact r.none_ k' hk' hf' j' hj'
  | none =>
    have ck := r.at_ k hkn
    rw [hf] at ck
    refine (put_new W h fb n base addr v cs k j r.b_lo ha (by omega) hk hj hj4 hkn r.n_hi r.hdr r.row r.csz hne ck).mono ?_
    rintro e W' ⟨rfl, g, hg, hfb, hnew, m⟩
    refine ⟨rfl, ⟨fb, cs.setIfInBounds k (.slice (some ⟨g, 0, none⟩) 4096 4096), fun i => if i = k then some (g, 4096) else fs i, ?_⟩, m.mono fun i _ e => by obtain rfl : i = fb := e; exact r.foot_fb⟩
    refine { hdr := r.hdr.one m hne, row := hfb, csz := by simpa using r.csz, n_lo := r.n_lo, n_hi := r.n_hi, b_lo := r.b_lo, b_hi := r.b_hi, at_ := fun k' hk' => ?_, frame := fun k' g' c' hk' hf' => ?_, none_ := fun k' hk' hf' j' hj' => ?_, inj := fun a b g' c c' ha hb h1 h2 => ?_, foot_h := .inl r.foot_h, foot_fb := .inl r.foot_fb, bound := Grow.bound r.bound m.size, byte := hbyte }
    · by_cases e : k = k'
      · subst e; simp [r.csz, hkn, sl]
      · rw [Array.getElem?_setIfInBounds_ne e]; simp only [if_neg (Ne.symm e)]; exact r.at_ k' hk'
    · by_cases e : k' = k
      · subst e
        simp only [if_true, Option.some.injEq, Prod.mk.injEq] at hf'
        obtain ⟨rfl, rfl⟩ := hf'
        refine ⟨.inr ⟨hnew, hg.lt⟩, _, hg, by rw [row_size]; exact Nat.le_refl _, fun j' hj' => ?_⟩
        rw [row_at _ _ hj']
        unfold upd
        by_cases ej : j = j'
        · subst ej; rw [if_pos rfl, if_pos rfl]
        · rw [if_neg (Ne.symm ej), if_neg (by omega), r.none_ k' hk' hf j' hj']
      · simp only [if_neg e] at hf'
        obtain ⟨hF', bs', hb2, hsz', hbs'⟩ := r.frame k' g' c' hk' hf'
        have : g' ≠ fb := fun eg => by subst eg; have := (hb2.inj r.row).2; revert this; decide
        refine ⟨.inl hF', bs', hb2.one m this, hsz', fun j' hj' => ?_⟩
        unfold upd
        rw [if_neg (by omega)]; exact hbs' j' hj'
    · by_cases e : k' = k
      · simp [e] at hf'
      · simp only [if_neg e] at hf'
        unfold upd
        rw [if_neg (by omega)]; exact r.none_ k' hk' hf' j' hj'
    · have old : ∀ d c, d < n → fs d ≠ some (g, c) := fun d c hd hcg => by
        have := r.bound g (r.frame d g c hd hcg).1
        omega
      by_cases ea : a = k <;> by_cases eb : b = k
      · rw [ea, eb]
      · simp only [if_pos ea, if_neg eb, Option.some.injEq, Prod.mk.injEq] at h1 h2; obtain ⟨rfl, _⟩ := h1; exact absurd h2 (old b _ hb)
      · simp only [if_neg ea, if_pos eb, Option.some.injEq, Prod.mk.injEq] at h1 h2; obtain ⟨rfl, _⟩ := h2; exact absurd h1 (old a _ ha)
      · simp only [if_neg ea, if_neg eb] at h1 h2; exact r.inj a b g' c c' ha hb h1 h2
theorem right_any (s : Int) (w : World) : Calls Tryz.prog 47 #[.int .i64 s] w fun e w' => e = .returned (.bool (wholeB s)) ∧ w = w' := by
  by_cases h1 : s = 1
  · subst h1; go_enter Tryz.func47, Tryz.ntmps47; go_wp2; go_ret; exact ⟨rfl, rfl⟩
  by_cases h2 : s = 2
  · subst h2; go_enter Tryz.func47, Tryz.ntmps47; go_wp2; go_ret; exact ⟨rfl, rfl⟩
  by_cases h3 : s = 4
  · subst h3; go_enter Tryz.func47, Tryz.ntmps47; go_wp2; go_ret; exact ⟨rfl, rfl⟩
  by_cases h4 : s = 8
  · subst h4; go_enter Tryz.func47, Tryz.ntmps47; go_wp2; go_ret; exact ⟨rfl, rfl⟩
  have E := Lib.hid (show wholeB s = false from decide_eq_false (by omega))
  have d1 : (s == 1) = false := by simpa using h1
  have d2 : (s == 2) = false := by simpa using h2
  have d3 : (s == 4) = false := by simpa using h3
  have d4 : (s == 8) = false := by simpa using h4
  go_enter Tryz.func47, Tryz.ntmps47; go_wp2; go_ret; exact ⟨by rw [E.out]; rfl, rfl⟩
set_option maxHeartbeats 1000000 in
theorem has_any {W : World} {h n : Nat} {base : Int} {mem : Nat → Int} {F : Nat → Prop} (r : Mem W h base n mem F) (addr size : Int) (ha : 0 ≤ addr ∧ addr < 18446744073709551616) (hs : size < 9223372036854775808) :
    Calls Tryz.prog 48 #[.pointer (some ⟨h, 0, none⟩), .int .u64 addr, .int .i64 size] W fun e W' => e = .returned (.bool (hasB base n addr size)) ∧ W = W' := by
  obtain ⟨fb, c0, c1, c2⟩ := r.cells
  obtain ⟨n1, n2, b1, b2⟩ := r.size
  obtain ⟨ha1, ha2⟩ := ha
  clear r
  have hsz := Lib.hid hs
  clear hs
  by_cases h1 : size < 0
  · have E := Lib.hid (show hasB base n addr size = false from decide_eq_false (by omega))
    go_enter Tryz.func48, Tryz.ntmps48
    go_wp2
    go_ret
    exact ⟨by rw [E.out]; rfl, rfl⟩
  · have d1 : decide (size < 0) = false := by simpa using h1
    have h1' : 0 ≤ size := by omega
    clear h1
    by_cases h2 : addr < base
    · have E := Lib.hid (show hasB base n addr size = false from decide_eq_false (by omega))
      go_enter Tryz.func48, Tryz.ntmps48
      go_wp2
      go_ret
      exact ⟨by rw [E.out]; rfl, rfl⟩
    · have d2 : decide (addr < base) = false := by simpa using h2
      have h2' : base ≤ addr := by omega
      clear h2
      have hs : IntKind.u64.wrap (addr - base) = addr - base := IntWalk.u64_in _ (by omega)
      have hs0 : IntKind.u64.wrap size = size := IntWalk.u64_in _ (by have := hsz.out; omega)
      by_cases h3 : addr - base ≤ (n : Int) * 4096
      · have hs2 : IntKind.u64.wrap ((n : Int) * 4096 - (addr - base)) = (n : Int) * 4096 - (addr - base) := IntWalk.u64_in _ (by omega)
        have E := Lib.hid (show hasB base n addr size = decide (size ≤ (n : Int) * 4096 - (addr - base)) from decide_eq_decide.2 (by omega))
        go_enter Tryz.func48, Tryz.ntmps48
        go_wp2
        go_ret
        exact ⟨by rw [E.out]; rfl, rfl⟩
      · have d3 : decide (addr - base ≤ (n : Int) * 4096) = false := by simpa using h3
        have h3' : (n : Int) * 4096 < addr - base := by omega
        clear h3
        have E := Lib.hid (show hasB base n addr size = false from decide_eq_false (by omega))
        go_enter Tryz.func48, Tryz.ntmps48
        go_wp2
        go_ret
        exact ⟨by rw [E.out]; rfl, rfl⟩
end Go.Proofs.YthkodjkkcgdmfaaGreat.Ref
end
section
namespace Go.Proofs.YthkodjkkcgdmfaaGreat.Ref
open Go Go.RowKit Go.Proofs.YthkodjkkcgdmfaaGreat.Step Go.Proofs.YthkodjkkcgdmfaaGreat.Mem
set_option linter.unusedVariables false
set_option linter.unusedSimpArgs false
set_option maxRecDepth 100000
theorem mod_grow' {F : Nat → Prop} {W W1 W2 : World} (h : Mod F W W1) (k : Mod (Grow F W W1) W1 W2) : Mod F W W2 := Mem.mod_grow h k
set_option maxHeartbeats 1000000 in
theorem write_yes {W : World} {h n : Nat} {base : Int} {mem : Nat → Int} {F : Nat → Prop} (r : Mem W h base n mem F) (addr v : Int) (s : Nat) (ha : 0 ≤ addr ∧ addr < 18446744073709551616) (hv : 0 ≤ v ∧ v < 18446744073709551616) (h1 : wholeB s = true) (h2 : hasB base n addr s = true) :
    Calls Tryz.prog 29 #[.pointer (some ⟨h, 0, none⟩), .int .u64 addr, .int .i64 s, .int .u64 v] W fun e W' => e = .returned (.bool true) ∧ Mem W' h base n (wr mem (addr - base).toNat s v) (Grow F W W') ∧ Mod F W W' := by
  have hs : s ≤ 8 := by have := of_decide_eq_true h1; omega
  obtain ⟨hh1, hh2, hh3⟩ := of_decide_eq_true h2
  have T1 := Lib.hid (fun w => (right_any s w).mono fun e w' h => (by rw [h1] at h; exact h : e = .returned (.bool true) ∧ w = w'))
  have hs9 : (s : Int) < 9223372036854775808 := by omega
  have T2 := Lib.hid ((has_any r addr s ha hs9).mono fun e w' h => (by rw [h2] at h; exact h : e = .returned (.bool true) ∧ W = w'))
  have R := Lib.hid r
  obtain ⟨ha1, ha2⟩ := ha
  obtain ⟨n1, n2, b1, b2⟩ := r.size
  have HV := Lib.hid hv
  clear h1 h2 r hs9 hv
  go_enter Tryz.func29, Tryz.ntmps29
  go_wp2_with (first
    | (go_at_call 47; refine (T1.out _).mono ?_; rintro e w1 ⟨rfl, rfl⟩)
    | (go_at_call 48; refine (T2.out).mono ?_; rintro e w1 ⟨rfl, rfl⟩))
  go_loopw [3, 9] (fun x i W1 => ∃ k : Nat, k ≤ s ∧ i = .int .i64 k ∧ x = .int .u64 (v / 256 ^ k) ∧ Mem W1 h base n (wr mem (addr - base).toNat k v) (Grow F W W1) ∧ Mod F W W1) (fun _ i _ => (s - intOf i).toNat)
  case atStart =>
    refine ⟨0, Nat.zero_le _, rfl, by rw [Int.pow_zero, Int.ediv_one], ?_, Mod.refl _ _⟩
    rw [wr_zero]; exact R.out.more (fun k hk => .inl hk) (Grow.bound R.out.bound (Nat.le_refl _))
  case round =>
    obtain ⟨k, hk, rfl, rfl, hR, hM⟩ := hrel
    have hv0 : 0 ≤ v / 256 ^ k := Int.ediv_nonneg HV.out.1 (Int.pow_nonneg (by decide))
    have hv1 : v / 256 ^ k < 18446744073709551616 := Int.lt_of_le_of_lt (Int.ediv_le_self _ HV.out.1) HV.out.2
    by_cases hlt : k < s
    · have T3 := Lib.hid (put hR (addr + k) (v / 256 ^ k % 256) (by omega) (by omega) (by omega))
      have hsz := Lib.hid hM.size
      have HM := Lib.hid hM
      have w2 : IntKind.u8.wrap (v / 256 ^ k % 256) = v / 256 ^ k % 256 := IntWalk.u8_in _ (by omega)
      clear hR hM
      go_wp2_with (go_at_call 49; refine (T3.out).mono ?_; rintro e w2 ⟨rfl, hR, hM⟩; have HR2 := Lib.hid hR; have HM2 := Lib.hid hM; clear hR hM)
      refine ⟨⟨k + 1, by omega, by go_num, ?_, ?_, mod_grow' HM.out HM2.out⟩, by simp [intOf]; omega⟩
      · rw [Int.pow_succ, ← Int.ediv_ediv_of_nonneg (Int.pow_nonneg (by decide))]
      · have := (HR2.out.grow R.out.bound hsz.out HM2.out.size)
        rw [show (addr + (k : Int) - base).toNat = (addr - base).toNat + k by omega, wr_succ] at this
        exact this
    · obtain rfl : k = s := by omega
      have HR := Lib.hid hR
      have HM := Lib.hid hM
      clear hR hM
      go_wp2
      go_ret
      exact ⟨rfl, HR.out, HM.out⟩
end Go.Proofs.YthkodjkkcgdmfaaGreat.Ref
end
section
namespace Go.Proofs.YthkodjkkcgdmfaaGreat.Ref
open Go Go.RowKit Go.Proofs.YthkodjkkcgdmfaaGreat.Step Go.Proofs.YthkodjkkcgdmfaaGreat.Mem
set_option linter.unusedVariables false
set_option linter.unusedSimpArgs false
set_option maxRecDepth 100000
theorem mk_rows : (Tryz.prog.info? 66).map (fun i => (i.size, i.bytes, i.zero)) = some (1, 24, some (.slice none 0 0)) := by kernel_rfl
set_option maxHeartbeats 1000000 in
theorem new_yes (W : World) (base : Int) (n : Nat) (hb : 0 ≤ base ∧ base < 18446744073709551616) (h : newB base n = true) :
    Calls Tryz.prog 56 #[.int .u64 base, .int .i64 n] W fun e W' => ∃ h, e = .returned (.tuple #[.pointer (some ⟨h, 0, none⟩), .int .i64 0]) ∧ Mem W' h base n (fun _ => 0) (Grow Nil W W') ∧ Mod Nil W W' := by
  obtain ⟨h1, h2, h3, h4⟩ := of_decide_eq_true h
  obtain ⟨b1, b2⟩ := hb
  clear h
  have d1 : decide ((n : Int) < 1) = false := by simpa using h1
  have d2 : decide (1024 < (n : Int)) = false := by simpa using h2
  have d4 : decide (4503599627370496 < base) = false := by simpa using h4
  have HN := Lib.hid (show 24 * n ≤ 281474976710656 by omega)
  have HN2 := Lib.hid (show n ≤ 9223372036854775807 by omega)
  have HB := Lib.hid (⟨h1, h2, h4, b1⟩ : (1 ≤ (n : Int)) ∧ (n : Int) ≤ 1024 ∧ base ≤ 4503599627370496 ∧ 0 ≤ base)
  have hu66 := Tryz.underlying88
  clear h1 h2 h4 b2
  go_enter Tryz.func56, Tryz.ntmps56
  go_wp2_with (first
    | (refine Step.make (t := 86) rfl rfl rfl rfl Tryz.underlying86 mk_rows rfl HN.out HN2.out ?_; intro g w1 b hg hb; have B1 := Lib.hid b; have HG := Lib.hid hg; have HM := Lib.hid hb; clear b hg hb)
    | ((with_reducible refine Step.gate_box (t := 88) rfl ?_); refine Step.fresh (cs := #[.int .u64 base, .int .i64 n, .slice (some ⟨g, 0, none⟩) n n]) (T := 88) rfl ?hr ?_; (case hr => first | (go_simp; done) | (go_simp; rfl)); intro g2 w2 b hg hb; have B2 := Lib.hid b; have B3 := Lib.hid (B1.out.below hb); have HG2 := Lib.hid hg; have HM2 := Lib.hid hb; clear b hg hb))
  refine bodyPost_ret (results_tmp2 rfl _ _ _) rfl ⟨g2, rfl, ?_, Mod.of_below (below_below HM.out (HM2.out)) Nil⟩
  obtain ⟨hn1, hn2, hb1, hb2⟩ := HB.out
  have s1 := HG.out
  have s2 := HG2.out
  have l1 := B1.out.lt
  have l2 := B2.out.lt
  have l3 := B3.out.lt
  refine ⟨g, Array.replicate n (.slice none 0 0), fun _ => none, ?_⟩
  exact { hdr := B2.out, row := B3.out, csz := by simp, n_lo := by omega, n_hi := by omega, b_lo := hb2, b_hi := hb1, at_ := fun k hk => by simp [hk, sl], frame := fun k g c hk hf => (by cases hf), none_ := fun k hk hf j hj => rfl, inj := fun k k' g c c' hk hk' h1 h2 => (by cases h1), foot_h := .inr ⟨by omega, l2⟩, foot_fb := .inr ⟨s1, l3⟩, bound := fun k hk => hk.elim (fun h => h.elim) (fun h => h.2), byte := fun i hi => by decide }
set_option maxHeartbeats 1000000 in
theorem fill_yes {W : World} {h n : Nat} {base : Int} {mem : Nat → Int} {F G : Nat → Prop} (r : Mem W h base n mem F) (addr : Int) {A : Option Addr} {s c : Nat} {f : Nat → Int} (rb : Rd W A s f G) (hG : ∀ k, G k → ¬ F k ∧ k < W.heap.size) (ha : 0 ≤ addr ∧ addr < 18446744073709551616) (h2 : hasB base n addr s = true) :
    Calls Tryz.prog 82 #[.pointer (some ⟨h, 0, none⟩), .int .u64 addr, .slice A s c] W fun e W' => e = .returned (.bool true) ∧ Mem W' h base n (fl mem (addr - base).toNat s f) (Grow F W W') ∧ Mod F W W' := by
  obtain ⟨hh1, hh2, hh3⟩ := of_decide_eq_true h2
  obtain ⟨n1, n2, b1, b2⟩ := r.size
  have hs9 : (s : Int) < 9223372036854775808 := by omega
  have T2 := Lib.hid ((has_any r addr s ha hs9).mono fun e w' h => (by rw [h2] at h; exact h : e = .returned (.bool true) ∧ W = w'))
  have R := Lib.hid r
  have RB := Lib.hid rb
  have HG := Lib.hid hG
  obtain ⟨ha1, ha2⟩ := ha
  have s1 : s ≤ 4194304 := by omega
  clear h2 r hs9 rb hG
  go_enter Tryz.func82, Tryz.ntmps82
  go_wp2_with (first
    | (go_at_call 48; refine (T2.out).mono ?_; rintro e w1 ⟨rfl, rfl⟩))
  go_loopw [7] (fun i W1 => ∃ k : Nat, k ≤ s ∧ i = .int .i64 k ∧ Mem W1 h base n (fl mem (addr - base).toNat k f) (Grow F W W1) ∧ Mod F W W1) (fun i _ => (s - intOf i).toNat)
  case atStart =>
    refine ⟨0, Nat.zero_le _, rfl, ?_, Mod.refl _ _⟩
    rw [fl_zero]; exact R.out.more (fun k hk => .inl hk) (Grow.bound R.out.bound (Nat.le_refl _))
  case round =>
    obtain ⟨k, hk, rfl, hR, hM⟩ := hrel
    by_cases hlt : k < s
    · obtain ⟨ad, rfl, _, hc, hf⟩ := (RB.out.mod hM (fun i hi => (HG.out i hi).1) (fun i hi => (HG.out i hi).2)) k hlt
      have T3 := Lib.hid (put hR (addr + k) (f k) (by omega) (by omega) hf)
      have hsz := Lib.hid hM.size
      have HM := Lib.hid hM
      clear hR hM hf
      go_wp2_with (go_at_call 49; refine (T3.out).mono ?_; rintro e w2 ⟨rfl, hR, hM⟩; have HR2 := Lib.hid hR; have HM2 := Lib.hid hM; clear hR hM)
      refine ⟨⟨k + 1, by omega, by go_num, ?_, mod_grow' HM.out HM2.out⟩, by simp [intOf]; omega⟩
      have := (HR2.out.grow R.out.bound hsz.out HM2.out.size)
      rw [show (addr + (k : Int) - base).toNat = (addr - base).toNat + k by omega, fl_succ] at this
      exact this
    · obtain rfl : k = s := by omega
      have HR := Lib.hid hR
      have HM := Lib.hid hM
      clear hR hM
      go_wp2
      go_ret
      exact ⟨rfl, HR.out, HM.out⟩
end Go.Proofs.YthkodjkkcgdmfaaGreat.Ref
end
section
namespace Go.Proofs.YthkodjkkcgdmfaaGreat.Duo
open Go Go.RowKit Go.Proofs.YthkodjkkcgdmfaaGreat.Step Go.Proofs.YthkodjkkcgdmfaaGreat.Mem
set_option linter.unusedVariables false
set_option linter.unusedSimpArgs false
set_option maxRecDepth 100000
/-- A memory and the document's, of one content, in blocks newer than W. -/
structure Duo (W w : World) (h1 h2 : Nat) (base : Int) (n : Nat) (mem : Nat → Int) (F1 F2 : Nat → Prop) : Prop where
  one : Ram w h1 base n mem F1
  two : Ref.Mem w h2 base n mem F2
  apart : ∀ k, F1 k → ¬ F2 k
  new : ∀ k, F1 k ∨ F2 k → W.heap.size ≤ k
  mod : Mod Nil W w
section
variable {W w w' : World} {h1 h2 n : Nat} {base : Int} {mem mem' : Nat → Int} {F1 F2 S : Nat → Prop}
theorem Duo.below (d : Duo W w h1 h2 base n mem F1 F2) (b : Below w.heap.size w w') : Duo W w' h1 h2 base n mem F1 F2 :=
  ⟨d.one.below b, d.two.below b, d.apart, d.new, d.mod.trans (Mod.of_below b Nil)⟩
theorem Duo.drawn (d : Duo W w h1 h2 base n mem F1 F2) (b : ∃ k, w' = w.drewN k) : Duo W w' h1 h2 base n mem F1 F2 := d.below (below_drawn b)
theorem Duo.out (d : Duo W w h1 h2 base n mem F1 F2) : Below W.heap.size W w := d.mod.below
/-- Something newer beside them is turned. -/
theorem Duo.other (d : Duo W w h1 h2 base n mem F1 F2) (m : Mod S w w') (hs : ∀ k, F1 k ∨ F2 k → ¬ S k) (hn : ∀ k, S k → W.heap.size ≤ k) : Duo W w' h1 h2 base n mem F1 F2 :=
  ⟨d.one.mod m fun k h => hs k (.inl h), d.two.mod m fun k h => hs k (.inr h), d.apart, d.new, d.mod.trans_new m fun i hi h => by have := hn i h; omega⟩
theorem Duo.bound (d : Duo W w h1 h2 base n mem F1 F2) : ∀ k, F1 k ∨ F2 k → k < w.heap.size := fun k h => h.elim (d.one.bound k) (d.two.bound k)
theorem Duo.made {w1 w2 : World} (m0 : Mod Nil W w) (r1 : Ram w1 h1 base n mem (Grow Nil w w1)) (m1 : Mod Nil w w1) (r2 : Ref.Mem w2 h2 base n mem (Grow Nil w1 w2)) (m2 : Mod Nil w1 w2) : Duo W w2 h1 h2 base n mem (Grow Nil w w1) (Grow Nil w1 w2) :=
  ⟨r1.mod m2 (fun _ _ h => h), r2, fun k h1 h2 => by
      have := r1.bound k h1
      rcases h2 with h2 | h2
      · exact h2
      · omega, fun k h => by
      have := m0.size
      have := m1.size
      rcases h with (h | h) | (h | h)
      · exact h.elim
      · omega
      · exact h.elim
      · omega, (m0.trans m1).trans m2⟩
/-- The first is turned, then the second. -/
theorem Duo.step {w1 w2 : World} (d : Duo W w h1 h2 base n mem F1 F2) (r1 : Ram w1 h1 base n mem' (Grow F1 w w1)) (m1 : Mod F1 w w1) (r2 : Ref.Mem w2 h2 base n mem' (Grow F2 w1 w2)) (m2 : Mod F2 w1 w2) : Duo W w2 h1 h2 base n mem' (Grow F1 w w1) (Grow F2 w1 w2) :=
  ⟨r1.mod m2 (fun k a b => by
      have := d.two.bound k b
      rcases a with a | a
      · exact d.apart k a b
      · omega), r2, fun k a b => by
      have hb := r1.bound k a
      rcases a with a | a <;> rcases b with b | b
      · exact d.apart k a b
      · omega
      · have := d.two.bound k b; omega
      · omega, fun k h => by
      have := d.mod.size
      have := m1.size
      rcases h with (h | h) | (h | h)
      · exact d.new k (.inl h)
      · omega
      · exact d.new k (.inr h)
      · omega, (d.mod.trans_new m1 fun i hi h => by have := d.new i (.inl h); omega).trans_new m2 fun i hi h => by have := d.new i (.inr h); omega⟩
end
theorem write_z {W : World} {h n : Nat} {base : Int} {mem : Nat → Int} {F : Nat → Prop} (r : Ram W h base n mem F) (addr v z : Int) (s : Nat) (hz : z = s) (ha : 0 ≤ addr ∧ addr < 18446744073709551616) (hv : 0 ≤ v ∧ v < 18446744073709551616) (h1 : wholeB s = true) (h2 : hasB base n addr s = true) :
    Calls Tryz.prog 46 #[.pointer (some ⟨h, 0, none⟩), .int .u64 addr, .int .i64 z, .int .u64 v] W fun e W' => e = .returned (.bool true) ∧ Ram W' h base n (wr mem (addr - base).toNat s v) (Grow F W W') ∧ Mod F W W' := by subst hz; exact write_yes r addr v s ha hv h1 h2
theorem rwrite_z {W : World} {h n : Nat} {base : Int} {mem : Nat → Int} {F : Nat → Prop} (r : Ref.Mem W h base n mem F) (addr v z : Int) (s : Nat) (hz : z = s) (ha : 0 ≤ addr ∧ addr < 18446744073709551616) (hv : 0 ≤ v ∧ v < 18446744073709551616) (h1 : wholeB s = true) (h2 : hasB base n addr s = true) :
    Calls Tryz.prog 29 #[.pointer (some ⟨h, 0, none⟩), .int .u64 addr, .int .i64 z, .int .u64 v] W fun e W' => e = .returned (.bool true) ∧ Ref.Mem W' h base n (wr mem (addr - base).toNat s v) (Grow F W W') ∧ Mod F W W' := by subst hz; exact Ref.write_yes r addr v s ha hv h1 h2
set_option maxHeartbeats 1000000 in
theorem wboth {W w : World} {h1 h2 n : Nat} {base : Int} {mem : Nat → Int} {F1 F2 : Nat → Prop} (d : Duo W w h1 h2 base n mem F1 F2) (addr v : Int) (ha : 0 ≤ addr ∧ addr < 18446744073709551616) (hv : 0 ≤ v ∧ v < 18446744073709551616) (hh : hasB base n addr 8 = true) :
    Calls Tryz.prog 28 #[.agg #[.pointer (some ⟨h1, 0, none⟩), .pointer (some ⟨h2, 0, none⟩)], .int .u64 addr, .int .i64 8, .int .u64 v] w fun e w' => e = .returned (.tuple #[]) ∧ ∃ F1' F2', Duo W w' h1 h2 base n (wr mem (addr - base).toNat 8 v) F1' F2' ∧ (∀ k, k < w.heap.size → F1' k → F1 k) ∧ (∀ k, k < w.heap.size → F2' k → F2 k) ∧ Mod (fun k => F1 k ∨ F2 k) w w' := by
  have D := Lib.hid d
  have P1 := Lib.hid (fun (w1 : World) (r : Ram w1 h1 base n mem F1) => write_z r addr v 8 8 rfl ha hv (by decide) hh)
  have P2 := Lib.hid (fun (w1 : World) (r : Ref.Mem w1 h2 base n mem F2) => rwrite_z r addr v 8 8 rfl ha hv (by decide) hh)
  have hu := Tryz.underlying40
  clear d ha hv hh
  go_enter Tryz.func28, Tryz.ntmps28
  go_wp2_with (first
    | ((with_reducible refine Step.gate_box (t := 40) rfl ?_); refine Step.fresh (cs := #[.pointer (some ⟨h1, 0, none⟩), .pointer (some ⟨h2, 0, none⟩)]) (T := 40) rfl ?hr ?_; (case hr => first | (go_simp; done) | (go_simp; rfl)); intro g w2 b hg hb; have c0 := b.cell 0; have B := Lib.hid b; have D2 := Lib.hid (D.out.below hb); have HB := Lib.hid hb; have HG := Lib.hid hg; simp only [List.getElem?_toArray, List.getElem?_cons_zero] at c0; clear b hg hb)
    | (go_at_call 46; refine (P1.out _ D2.out.one).mono ?_; rintro e w3 ⟨rfl, r, m⟩; have R1 := Lib.hid r; have M1 := Lib.hid m; have c1 := (((B.out.mod m (fun hf => by have := D.out.bound g (.inl hf); have := HG.out; omega)).cell 1)); have r2 := Lib.hid (D2.out.two.mod m (fun k h2 h1 => D.out.apart k h1 h2)); simp only [List.getElem?_toArray, List.getElem?_cons_zero, List.getElem?_cons_succ] at c1; clear r m)
    | (go_at_call 29; refine (P2.out _ r2.out).mono ?_; rintro e w4 ⟨rfl, r, m⟩; have R2 := Lib.hid r; have M2 := Lib.hid m; clear r m))
  go_end0
  have dd := D2.out.step R1.out M1.out R2.out M2.out
  have hs := HB.out.size
  refine ⟨rfl, _, _, dd, fun k hk h => h.elim id fun h => by omega, fun k hk h => h.elim id fun h => by have := M1.out.size; omega, ?_⟩
  refine ((Mod.of_below HB.out _).trans (M1.out.mono fun k _ h => .inl h)).trans (M2.out.mono fun k _ h => .inr h)
end Go.Proofs.YthkodjkkcgdmfaaGreat.Duo
end
section
namespace Go.Proofs.YthkodjkkcgdmfaaGreat.Duo
open Go Go.RowKit Go.Proofs.YthkodjkkcgdmfaaGreat.Step Go.Proofs.YthkodjkkcgdmfaaGreat.Mem
set_option linter.unusedVariables false
set_option linter.unusedSimpArgs false
set_option maxRecDepth 100000
/-- A slice's cells: the place and the number of each. -/
def RdC (W : World) (A : Option Addr) (n : Nat) (f : Nat → Int × Int) (G : Nat → Prop) : Prop :=
  ∀ i, i < n → ∃ ad, A = some ad ∧ G ad.block ∧ W.cell? (ad.add (i * 2)) = some (.int .i64 (f i).1) ∧ W.cell? (ad.add (i * 2 + 1)) = some (.int .u64 (f i).2) ∧ (-9223372036854775808 ≤ (f i).1 ∧ (f i).1 < 9223372036854775808) ∧ (0 ≤ (f i).2 ∧ (f i).2 < 18446744073709551616)
/-- What a memory of so many frames holds when cells have been written into it. -/
def cm (n : Nat) (f : Nat → Int × Int) : Nat → Nat → Int
  | 0 => fun _ => 0
  | k + 1 => wr (cm n f k) (8 * ((f k).1 % ((512 * n : Nat) : Int))).toNat 8 (f k).2
theorem block_add (a : Addr) (k : Nat) : (a.add k).block = a.block := by unfold Addr.add; split <;> rfl
theorem addr_snd (a : Addr) (m : Nat) : (⟨(a.add m).block, (a.add m).off + 1, none⟩ : Addr) = a.add (m + 1) := by
  unfold Addr.add
  by_cases h : m = 0 <;> simp [h, Nat.add_assoc]
theorem RdC.mod {W W' : World} {A : Option Addr} {n : Nat} {f : Nat → Int × Int} {G S : Nat → Prop} (r : RdC W A n f G) (m : Mod S W W') (hs : ∀ k, G k → ¬ S k) (hG : ∀ k, G k → k < W.heap.size) : RdC W' A n f G := fun i hi => by
  obtain ⟨ad, e, g, h0, h1, h2⟩ := r i hi
  exact ⟨ad, e, g, (World.cell?_of_block (m.block _ (by rw [block_add]; exact hG _ g) (by rw [block_add]; exact hs _ g))).trans h0, (World.cell?_of_block (m.block _ (by rw [block_add]; exact hG _ g) (by rw [block_add]; exact hs _ g))).trans h1, h2⟩
theorem RdC.wide {W : World} {A : Option Addr} {n : Nat} {f : Nat → Int × Int} {G G' : Nat → Prop} (r : RdC W A n f G) (h : ∀ k, G k → G' k) : RdC W A n f G' := fun i hi => by
  obtain ⟨ad, e, g, h2⟩ := r i hi
  exact ⟨ad, e, h _ g, h2⟩
/-- The eight bytes of a number, written. -/
def wr_ (mem : Nat → Int) (o : Nat) (v : Int) : Nat → Int := wr mem o 8 v
theorem results_row_tmp {P : Program} {fn : Func} {p u : Tmp} {ty : TypeId} (h : fn.results = #[.cell p ty, .tmp u]) (tmps : Array Value) (w : World) (g : Nat) (t : TypeId) (cs : Array Value) (d : TypeDesc)
    (hp : tmps.getD p undef = .pointer (some ⟨g, 0, none⟩)) (hg : Blk w g cs t) (hu : P.underlying ty = some d) (hd : (match d with | .struct _ | .array _ _ => true | _ => false) = true) (hi : (P.info? ty).map (·.size) = some cs.size) :
    (results fn tmps).run P w = .ok (.tuple #[.agg cs, tmps.getD u undef]) w := by
  rw [results_cell_tmp h, hp]
  have h2 := run_loadVar_row (P := P) w g t ty cs (0, 0) d hg.out hu hd hi
  simp [asAddr, Result.andThen, h2]
theorem zero_two : (Tryz.prog.info? 40).bind (·.zero) = some (.agg #[.pointer none, .pointer none]) := by kernel_rfl
theorem alloc_agg {t : TypeId} {cs : Array Value} (h : (Tryz.prog.info? t).bind (·.zero) = some (.agg cs)) (W : World) : (Instr.alloc t true (.tuple #[])).run Tryz.prog W = .ok (.pointer (some ⟨W.heap.size, 0, none⟩)) (W.alloc (.cells cs t (0, 0))) := by
  cases hi : Tryz.prog.info? t with
  | none => rw [hi] at h; cases h
  | some i =>
    rw [hi] at h
    have hz : i.zero = some (.agg cs) := h
    simp [Instr.alloc, zeroValue, typeInfo, hi, hz, newVar, newRow, newObj, Result.andThen, Value.cells, go_sem]
    rfl
theorem new_z (w : World) (base z : Int) (n : Nat) (hz : z = n) (hb : 0 ≤ base ∧ base < 18446744073709551616) (h : newB base n = true) :
    Calls Tryz.prog 55 #[.int .u64 base, .int .i64 z] w fun e W' => ∃ h, e = .returned (.tuple #[.pointer (some ⟨h, 0, none⟩), .int .i64 0]) ∧ Ram W' h base n (fun _ => 0) (Grow Nil w W') ∧ Mod Nil w W' := by subst hz; exact new_yes w base n hb h
theorem rnew_z (w : World) (base z : Int) (n : Nat) (hz : z = n) (hb : 0 ≤ base ∧ base < 18446744073709551616) (h : newB base n = true) :
    Calls Tryz.prog 56 #[.int .u64 base, .int .i64 z] w fun e W' => ∃ h, e = .returned (.tuple #[.pointer (some ⟨h, 0, none⟩), .int .i64 0]) ∧ Ref.Mem W' h base n (fun _ => 0) (Grow Nil w W') ∧ Mod Nil w W' := by subst hz; exact Ref.new_yes w base n hb h
theorem size_two : (Tryz.prog.info? 40).map (·.size) = some 2 := by kernel_rfl
set_option maxHeartbeats 4000000 in
theorem memory_any (W : World) (base z : Int) (n : Nat) (hz : z = n) (hb : 0 ≤ base ∧ base < 18446744073709551616) (hn : newB base n = true) (A : Option Addr) (len cap : Nat) (f : Nat → Int × Int) (r : RdC W A len f (· < W.heap.size)) (hl : len ≤ 9223372036854775807) :
    Calls Tryz.prog 35 #[.int .u64 base, .int .i64 z, .slice A len cap] W fun e w' => ∃ h1 h2 F1 F2, e = .returned (.tuple #[.agg #[.pointer (some ⟨h1, 0, none⟩), .pointer (some ⟨h2, 0, none⟩)], .bool true]) ∧ Duo W w' h1 h2 base n (cm n f len) F1 F2 := by
  obtain ⟨n1, n2, nb, b2⟩ := of_decide_eq_true hn
  obtain ⟨b0, b1⟩ := hb
  have T1 := Lib.hid (fun w => new_z w base z n hz ⟨b0, b1⟩ hn)
  have T2 := Lib.hid (fun w => rnew_z w base z n hz ⟨b0, b1⟩ hn)
  have R := Lib.hid r
  have Z := Lib.hid hz
  have HL := Lib.hid hl
  have hu := Tryz.underlying40
  have w512 : IntKind.i64.wrap (512 * z) = 512 * n := by rw [hz]; exact IntWalk.i64_in _ (by omega)
  clear r hn hl hz nb
  go_enter Tryz.func35, Tryz.ntmps35
  go_wp2_with (first
    | ((with_reducible refine Step.gate_alloc (t := 40) rfl ?_); refine Step.freshAlloc rfl rfl (alloc_agg zero_two) ?_; (first
        | (have this := Lib.hid D0; intro g12 w4 b hg hb; have B12 := Lib.hid b; have B6c := Lib.hid (B6.out.below hb); have D1 := Lib.hid (D0.out.below hb); have HG12 := Lib.hid hg; clear b hg hb this)
        | (intro g6 w1 b hg hb; have B6a := Lib.hid b; have HB6 := Lib.hid hb; have HG6 := Lib.hid hg; clear b hg hb)))
    | (go_at_call 55; refine (T1.out _).mono ?_; rintro e w2 ⟨h1, rfl, r, m⟩; have R1 := Lib.hid r; have M1 := Lib.hid m; have B6b := Lib.hid (B6a.out.mod m (fun h => h)); clear r m)
    | (go_at_call 56; refine (T2.out _).mono ?_; rintro e w3 ⟨h2, rfl, r, m⟩; have D0 := Lib.hid (Duo.made (Mod.of_below HB6.out Nil) R1.out M1.out r m); have B6 := Lib.hid (B6b.out.mod m (fun h => h)); have L6 := Lib.hid (show ∀ k, Grow Nil w1 w2 k ∨ Grow Nil w2 w3 k → k ≠ g6 from fun k h e => by subst e; have := B6a.out.lt; have := M1.out.size; rcases h with (h | h) | (h | h) <;> first | exact h | omega); clear r m)
    | ((with_reducible refine Step.gate_store (t := 40) rfl ?_); refine Step.storeAll (vs := #[.pointer (some ⟨h1, 0, none⟩), .pointer (some ⟨h2, 0, none⟩)]) B12.out rfl rfl rfl rfl rfl size_two rfl rfl ?_; intro w5 nb m; have N12 := Lib.hid nb; have N6 := Lib.hid (B6c.out.one m (by have := B6.out.lt; have := HG12.out; omega)); have D2 := Lib.hid (D1.out.other m (fun k h e => by obtain rfl : k = g12 := e; have := D0.out.bound k h; have := HG12.out; omega) (fun k e => by obtain rfl : k = g12 := e; have := HG12.out; have := D0.out.mod.size; omega)); have L12 := Lib.hid (show ∀ k, Grow Nil w1 w2 k ∨ Grow Nil w2 w3 k → k ≠ g12 from fun k h e => by subst e; have := D0.out.bound k h; have := HG12.out; omega); clear nb m))
  have G12 := Lib.hid (show W.heap.size ≤ g12 from by have := HG12.out; have := D0.out.mod.size; omega)
  have NE := Lib.hid (show g6 ≠ g12 from by have := B6.out.lt; have := HG12.out; omega)
  obtain ⟨F1, F2, hD, hL6, hL12⟩ : ∃ F1 F2, Duo W w5 h1 h2 base n (cm n f 0) F1 F2 ∧ (∀ k, F1 k ∨ F2 k → k ≠ g6) ∧ (∀ k, F1 k ∨ F2 k → k ≠ g12) := ⟨_, _, D2.out, L6.out, L12.out⟩
  have DD := Lib.hid hD
  have LL6 := Lib.hid hL6
  have LL12 := Lib.hid hL12
  clear hD hL6 hL12 D0 D1 D2 L6 L12 R1 M1 B6 B6a B6b B6c B12 HG12 HB6
  go_loopw [13] (fun i w => ∃ k : Nat, k ≤ len ∧ i = .int .i64 k ∧ Blk w g12 #[.pointer (some ⟨h1, 0, none⟩), .pointer (some ⟨h2, 0, none⟩)] 40 ∧ Blk w g6 #[.pointer none, .pointer none] 40 ∧ ∃ F1 F2, Duo W w h1 h2 base n (cm n f k) F1 F2 ∧ (∀ k, F1 k ∨ F2 k → k ≠ g6) ∧ (∀ k, F1 k ∨ F2 k → k ≠ g12)) (fun i _ => (len - intOf i).toNat)
  case atStart => exact ⟨0, Nat.zero_le _, rfl, N12.out, N6.out, F1, F2, DD.out, LL6.out, LL12.out⟩
  case round =>
    clear DD LL6 LL12 N12 N6 F1 F2
    obtain ⟨k, hk, rfl, hB12, hB6, F1, F2, hD, hL6, hL12⟩ := hrel
    have DK := Lib.hid hD
    have K12 := Lib.hid hB12
    have K6 := Lib.hid hB6
    have LK6 := Lib.hid hL6
    have LK12 := Lib.hid hL12
    clear hD hB12 hB6 hL6 hL12
    by_cases hlt : k < len
    · obtain ⟨ad, rfl, hab, hc0, hc1, hv0, hv1⟩ := (R.out.mod DK.out.mod (fun k hk h => h) (fun k hk => hk)) k hlt
      obtain ⟨q, hq⟩ := Int.eq_ofNat_of_zero_le (show 0 ≤ (f k).1 % ((512 * n : Nat) : Int) from Int.emod_nonneg _ (by omega))
      have hq2 : (q : Int) < 512 * n := by have := Int.emod_lt_of_pos (f k).1 (show (0 : Int) < ((512 * n : Nat) : Int) by omega); omega
      have TP := Lib.hid (fun w => (place_any (f k).1 (512 * n) (by omega) hv0 (by omega) w).mono fun e w' h => (by rw [show (512 * n : Int) = ((512 * n : Nat) : Int) by omega, hq] at h; exact h : e = .returned (.int .i64 q) ∧ w = w'))
      have q1 : IntKind.u64.wrap (q : Int) = q := IntWalk.u64_in _ (by omega)
      have q2 : IntKind.u64.wrap (8 * (q : Int)) = 8 * q := IntWalk.u64_in _ (by omega)
      have q3 : IntKind.u64.wrap (base + 8 * (q : Int)) = base + 8 * q := IntWalk.u64_in _ (by omega)
      have TW := Lib.hid (fun w (hw : Below wr.heap.size wr w) => wboth (DK.out.below hw) (base + 8 * q) (f k).2 (by omega) hv1 (decide_eq_true (by omega)))
      have CM := Lib.hid (show cm n f (k + 1) = wr_ (cm n f k) (base + 8 * q - base).toNat (f k).2 from by show Mem.wr (cm n f k) (8 * ((f k).1 % ((512 * n : Nat) : Int))).toNat 8 (f k).2 = _; rw [hq]; unfold wr_; congr 1; omega)
      have LB := Lib.hid (show ad.block < wr.heap.size from by have := DK.out.mod.size; omega)
      have NA := Lib.hid (show ¬ (F1 ad.block ∨ F2 ad.block) from fun h => by have := DK.out.new _ h; omega)
      generalize (f k).1 = v0 at hc0 TP hq
      generalize (f k).2 = v1 at hc1 TW CM
      have e1 : ad.add (k * 2) = (ad.add (k * 2)) := rfl
      rw [← addr_snd] at hc1
      have cB := K12.out.cell 0
      have cC := K12.out.cell 1
      simp only [List.getElem?_toArray, List.getElem?_cons_zero, List.getElem?_cons_succ] at cB cC
      clear hv0 hv1 hq hq2 e1
      go_wp2
      go_region_held3 (fun w' => w'.cell? ⟨g12, 0, none⟩ = some (.pointer (some ⟨h1, 0, none⟩)) ∧ w'.cell? ⟨g12, 1, none⟩ = some (.pointer (some ⟨h2, 0, none⟩)) ∧ w'.cell? (ad.add (k * 2)) = some (.int .i64 v0) ∧ w'.cell? ⟨(ad.add (k * 2)).block, (ad.add (k * 2)).off + 1, none⟩ = some (.int .u64 v1))
        (first
          | exact ⟨cB, cC, hc0, hc1⟩
          | exact ⟨(World.cell?_of_block (w := wr) (hm.block g12 K12.out.lt (fun h => LK12.out _ h rfl))).trans cB, (World.cell?_of_block (w := wr) (hm.block g12 K12.out.lt (fun h => LK12.out _ h rfl))).trans cC, (World.cell?_of_block (w := wr) (hm.block _ (by rw [block_add]; exact LB.out) (by rw [block_add]; exact NA.out))).trans hc0, (show w9.cell? ⟨(ad.add (k * 2)).block, (ad.add (k * 2)).off + 1, none⟩ = wr.cell? ⟨(ad.add (k * 2)).block, (ad.add (k * 2)).off + 1, none⟩ from World.cell?_of_block (hm.block (ad.add (k * 2)).block (by rw [block_add]; exact LB.out) (by rw [block_add]; exact NA.out))).trans hc1⟩)
        (first
          | ((with_reducible refine (TP.out _).mono ?_); rintro e w8 ⟨rfl, rfl⟩)
          | ((with_reducible refine (TW.out _ (Below.drew (Below.refl _ _))).mono ?_); rintro e w9 ⟨rfl, F1', F2', hd, hf1, hf2, hm⟩))
      rename_i hHeld
      have HM := Lib.hid (show Mod (fun k => F1 k ∨ F2 k) wr w9 from ⟨hm.os, hm.tape, hm.output, hm.size, hm.block⟩)
      have HD := Lib.hid hd
      have HF1 := Lib.hid hf1
      have HF2 := Lib.hid hf2
      clear hHeld hm hd hf1 hf2 cB cC hc0 hc1
      have hlen := HL.out
      go_wp2
      refine ⟨⟨k + 1, by omega, by go_num, K12.out.mod HM.out (fun h => LK12.out _ h rfl), K6.out.mod HM.out (fun h => LK6.out _ h rfl), F1', F2', CM.out ▸ HD.out, fun j h e => ?_, fun j h e => ?_⟩, by simp [intOf]; omega⟩
      · subst e
        exact LK6.out j (h.elim (fun h => .inl (HF1.out j K6.out.lt h)) fun h => .inr (HF2.out j K6.out.lt h)) rfl
      · subst e
        exact LK12.out j (h.elim (fun h => .inl (HF1.out j K12.out.lt h)) fun h => .inr (HF2.out j K12.out.lt h)) rfl
    · obtain rfl : k = len := by omega
      have cB := K12.out.cell 0
      have cC := K12.out.cell 1
      simp only [List.getElem?_toArray, List.getElem?_cons_zero, List.getElem?_cons_succ] at cB cC
      go_wp2_with (first
        | ((with_reducible refine Step.gate_store (t := 40) rfl ?_); refine Step.storeAll (vs := #[.pointer (some ⟨h1, 0, none⟩), .pointer (some ⟨h2, 0, none⟩)]) K6.out rfl rfl rfl rfl rfl size_two rfl rfl ?_; intro w7 nb m; have N6 := Lib.hid nb; have D7 := Lib.hid (DK.out.other m (fun k h e => LK6.out _ h e) (fun k e => by obtain rfl : k = g6 := e; exact HG6.out)); clear nb m))
      refine bodyPost_ret (results_row_tmp rfl _ _ g6 _ _ _ rfl N6.out hu rfl size_two) rfl ⟨h1, h2, F1, F2, rfl, D7.out⟩
end Go.Proofs.YthkodjkkcgdmfaaGreat.Duo
end
section
namespace Go.Proofs.YthkodjkkcgdmfaaGreat.Mem
open Go Go.RowKit Go.Proofs.YthkodjkkcgdmfaaGreat.Step
set_option linter.unusedVariables false
set_option linter.unusedSimpArgs false
set_option maxRecDepth 100000
/-- The bytes as a list of cells. -/
def lst (n : Nat) (f : Nat → Int) : List Value := (List.range n).map fun k => .int .u8 (f k)
theorem lst_len (n : Nat) (f : Nat → Int) : (lst n f).length = n := by simp [lst]
theorem lst_at (n : Nat) (f : Nat → Int) {k : Nat} (h : k < n) : (lst n f)[k]? = some (.int .u8 (f k)) := by simp [lst, h]
theorem lst_one (n : Nat) (f : Nat → Int) : ∀ u ∈ lst n f, u.oneCell' = true := by
  intro u hu
  obtain ⟨k, _, rfl⟩ := List.mem_map.1 hu
  rfl
theorem info_u8 : ∃ i, Tryz.prog.info? 5 = some i ∧ i.size = 1 ∧ i.bytes = 1 ∧ i.zero = some (.int .u8 0) := by
  have h := mk_u8
  cases hi : Tryz.prog.info? 5 with
  | none => rw [hi] at h; cases h
  | some i =>
    rw [hi] at h
    simp only [Option.map_some, Option.some.injEq, Prod.mk.injEq] at h
    exact ⟨i, rfl, h⟩
/-- An argument's bytes, nil or not. -/
structure Arg (W : World) (A : Option Addr) (n c : Nat) (f : Nat → Int) (G : Nat → Prop) : Prop where
  rd : Rd W A n f G
  nil_ : A = none → n = 0 ∧ c = 0
set_option maxHeartbeats 1000000 in
theorem copyBytes_any {W : World} {A : Option Addr} {n c : Nat} {f : Nat → Int} {G : Nat → Prop} (r : Arg W A n c f G) (hn : n ≤ 140737488355328) :
    Calls Tryz.prog 81 #[.slice A n c] W fun e W' => ∃ v, e = .returned v ∧ W'.ownsRow W.heap.size 5 1 v n (lst n f) ∧ Below W.heap.size W W' := by
  obtain ⟨i, hi, hs, hb, hz⟩ := info_u8
  have R := Lib.hid r
  have HI := Lib.hid hi
  have HS := Lib.hid hs
  have HB := Lib.hid hb
  have HZ := Lib.hid hz
  clear hi hs hb hz r
  cases A with
  | none =>
    obtain ⟨rfl, rfl⟩ := R.out.nil_ rfl
    go_enter Tryz.func81, Tryz.ntmps81
    go_wp2
    go_ret
    exact ⟨_, rfl, World.ownsRow_nil _ _ _ _, Below.refl _ _⟩
  | some ad =>
    go_enter Tryz.func81, Tryz.ntmps81
    go_wp2_with ((with_reducible refine wpList_append_own (w := W) rfl _ _ 66 rfl W.heap.size 5 i _ 1 1 Tryz.underlying66 HI.out HZ.out HS.out HB.out rfl (by omega) (.slice none 0 0) 0 [] rfl (World.ownsRow_nil _ _ _ _) ad n c (lst n f) rfl ?h1 ?h2 (lst_one _ _) ?h3 ?h4 (Nat.le_refl _) ?_); rotate_right; intro v' w' own' grow' hv; have OW := Lib.hid own'; have GR := Lib.hid grow'; clear own' grow' hv)
    case h1 => rw [lst_len, Nat.mul_one]
    case h2 =>
      intro j u hu
      have hj : j < n := by have := (List.getElem?_eq_some_iff.1 hu).1; rwa [lst_len] at this
      rw [lst_at n f hj] at hu
      obtain ⟨ad', e, _, hc, _⟩ := R.out.rd j hj
      obtain rfl := Option.some.inj e
      rw [hc]; exact hu
    case h3 => unfold maxLen; omega
    case h4 => omega
    go_ret
    refine ⟨_, rfl, ?_, (Below.refl _ _).grown GR.out (Nat.le_refl _) (fun k hk => by cases hk)⟩
    have := OW.out
    rwa [Nat.zero_add, List.nil_append] at this
end Go.Proofs.YthkodjkkcgdmfaaGreat.Mem
end
section
namespace Go.Proofs.YthkodjkkcgdmfaaGreat.Hart
open Go Go.RowKit Go.Proofs.YthkodjkkcgdmfaaGreat.Step Go.Proofs.YthkodjkkcgdmfaaGreat.Enc Go.Proofs.YthkodjkkcgdmfaaGreat.Kn
open Go.Proofs.YthkodjkkcgdmfaaGreat.Mem (Ram Grow hasB wholeB num wr Rd fl Arg lst)
open Go.Proofs.YthkodjkkcgdmfaaGreat.Duo (Duo)
set_option linter.unusedVariables false
set_option linter.unusedSimpArgs false
set_option maxRecDepth 100000
set_option maxHeartbeats 1000000 in
theorem tlb_new1 (W : World) : Calls Tryz.prog 36 #[.int .i64 1] W fun e w' => ∃ g, e = .returned (.tuple #[.pointer (some ⟨g, 0, none⟩), .int .i64 0]) ∧ W.heap.size ≤ g ∧ Blk w' g #[.int .i64 1, .slice none 0 0] 115 ∧ Below W.heap.size W w' := by
  go_enter Tryz.func36, Tryz.ntmps36
  have ST := Lib.hid (Kn.nil (S := Step.Nil) (W := W))
  go_wp2_with (((with_reducible refine Step.gate_box (t := 115) rfl ?_); refine Step.fresh (cs := #[.int .i64 1, .slice none 0 0]) (T := 115) rfl ?hr ?_; (case hr => first | (go_simp; done) | (go_simp; rfl)); intro g1 w1 b hg hb; replace ST := Lib.hid (ST.out.made b hg hb); clear b hb; have HG := Lib.hid hg; clear hg))
  refine bodyPost_ret (results_tmp2 rfl _ _ _) rfl ?_
  exact ⟨g1, rfl, HG.out, ST.out.at0, ST.out.below⟩
set_option maxHeartbeats 1000000 in
theorem tlb_new8 (W : World) : Calls Tryz.prog 36 #[.int .i64 8] W fun e w' => ∃ g, e = .returned (.tuple #[.pointer (some ⟨g, 0, none⟩), .int .i64 0]) ∧ W.heap.size ≤ g ∧ Blk w' g #[.int .i64 8, .slice none 0 0] 115 ∧ Below W.heap.size W w' := by
  go_enter Tryz.func36, Tryz.ntmps36
  have ST := Lib.hid (Kn.nil (S := Step.Nil) (W := W))
  go_wp2_with (((with_reducible refine Step.gate_box (t := 115) rfl ?_); refine Step.fresh (cs := #[.int .i64 8, .slice none 0 0]) (T := 115) rfl ?hr ?_; (case hr => first | (go_simp; done) | (go_simp; rfl)); intro g1 w1 b hg hb; replace ST := Lib.hid (ST.out.made b hg hb); clear b hb; have HG := Lib.hid hg; clear hg))
  refine bodyPost_ret (results_tmp2 rfl _ _ _) rfl ?_
  exact ⟨g1, rfl, HG.out, ST.out.at0, ST.out.below⟩
set_option maxHeartbeats 1000000 in
theorem rtlb_new8 (W : World) : Calls Tryz.prog 50 #[.int .i64 8] W fun e w' => ∃ g, e = .returned (.tuple #[.pointer (some ⟨g, 0, none⟩), .int .i64 0]) ∧ W.heap.size ≤ g ∧ Blk w' g #[.int .i64 8, .slice none 0 0] 145 ∧ Below W.heap.size W w' := by
  go_enter Tryz.func50, Tryz.ntmps50
  have ST := Lib.hid (Kn.nil (S := Step.Nil) (W := W))
  go_wp2_with (((with_reducible refine Step.gate_box (t := 145) rfl ?_); refine Step.fresh (cs := #[.int .i64 8, .slice none 0 0]) (T := 145) rfl ?hr ?_; (case hr => first | (go_simp; done) | (go_simp; rfl)); intro g1 w1 b hg hb; replace ST := Lib.hid (ST.out.made b hg hb); clear b hb; have HG := Lib.hid hg; clear hg))
  refine bodyPost_ret (results_tmp2 rfl _ _ _) rfl ?_
  exact ⟨g1, rfl, HG.out, ST.out.at0, ST.out.below⟩
set_option maxHeartbeats 1000000 in
theorem core_new (W : World) (gm gt : Nat) : Calls Tryz.prog 37 #[.pointer (some ⟨gm, 0, none⟩), .pointer (some ⟨gt, 0, none⟩)] W fun e w' => ∃ g, e = .returned (.pointer (some ⟨g, 0, none⟩)) ∧ W.heap.size ≤ g ∧ Blk w' g (ccg gm (.pointer (some ⟨gt, 0, none⟩)) 0 0 0 0 (.map none)) TC ∧ Below W.heap.size W w' := by
  go_enter Tryz.func37, Tryz.ntmps37
  have ST := Lib.hid (Kn.nil (S := Step.Nil) (W := W))
  go_wp2_with (((with_reducible refine Step.gate_box (t := 129) rfl ?_); refine Step.fresh (cs := ccg gm (.pointer (some ⟨gt, 0, none⟩)) 0 0 0 0 (.map none)) (T := 129) rfl ?hr ?_; (case hr => first | (go_simp; done) | (go_simp; rfl)); intro g1 w1 b hg hb; replace ST := Lib.hid (ST.out.made b hg hb); clear b hb; have HG := Lib.hid hg; clear hg))
  go_ret
  exact ⟨g1, rfl, HG.out, ST.out.at0, ST.out.below⟩
set_option maxHeartbeats 1000000 in
theorem enter_any {W : World} {g gm : Nat} {tv km : Value} {r0 v0 done st : Int} (hb : Blk W g (ccg gm tv r0 v0 done st km) TC) (root vmid : Int) : Calls Tryz.prog 54 #[.pointer (some ⟨g, 0, none⟩), .int .u64 root, .int .i64 vmid] W fun e w' => e = .returned (.tuple #[]) ∧ Blk w' g (ccg gm tv root vmid done st km) TC ∧ Mod (One g) W w' := by
  go_enter Tryz.func54, Tryz.ntmps54
  have ST := Lib.hid (Kn.start (S := One g) hb rfl)
  clear hb
  go_wp2_with (first
    | ((with_reducible refine Step.gate_store (t := 22) rfl ?_); refine Step.store ST.out.at0 rfl rfl rfl rfl rfl pl_u64 rfl rfl ?_; intro w3 nb m; replace ST := Lib.hid (ST.out.set0 nb m); clear nb m)
    | ((with_reducible refine Step.gate_store (t := 3) rfl ?_); refine Step.store ST.out.at0 rfl rfl rfl rfl rfl pl_int rfl rfl ?_; intro w3 nb m; replace ST := Lib.hid (ST.out.set0 nb m); clear nb m))
  all_goals (first | go_ret | go_end0 | refine bodyPost_ret (results_none rfl _ _ _) rfl ?_)
  exact ⟨rfl, ST.out.at0, ST.out.mod⟩
theorem pl_pr3 : Step.plainT Tryz.prog 38 = true := by kernel_rfl
theorem own_rd {w : World} {b m : Nat} {v : Value} {f : Nat → Int} (h : w.ownsRow b 5 1 v m (lst m f)) (hf : ∀ k, k < m → 0 ≤ f k ∧ f k < 256) : ∃ A cap, v = .slice A m cap ∧ Rd w A m f (fun k => b ≤ k ∧ k < w.heap.size) := by
  obtain ⟨_, ⟨rfl, rfl⟩ | ⟨g, cap, cur, rfl, hb, ho, hn, hc, hs, ht⟩⟩ := h
  · exact ⟨none, 0, rfl, fun k hk => absurd hk (Nat.not_lt_zero k)⟩
  · refine ⟨some ⟨g, 0, none⟩, cap, rfl, fun k hk => ⟨_, rfl, ⟨hb, (Array.getElem?_eq_some_iff.1 ho).1⟩, ?_, hf k hk⟩⟩
    have h1 := Mem.lst_at m f hk
    rw [← ht, List.getElem?_take, if_pos (by omega)] at h1
    have e : (⟨g, 0, none⟩ : Addr).add k = ⟨g, k, none⟩ := by unfold Addr.add; split <;> simp_all
    rw [e]
    exact ((⟨ho⟩ : Blk w g cur 5).cell k).trans (by simpa using h1)
set_option maxHeartbeats 2000000 in
theorem fboth {W w : World} {h1 h2 n s c : Nat} {base : Int} {mem : Nat → Int} {F1 F2 G : Nat → Prop} {A : Option Addr} {f : Nat → Int} (d : Duo W w h1 h2 base n mem F1 F2) (r : Arg w A s c f G) (hG : ∀ k, G k → ¬ F1 k ∧ ¬ F2 k ∧ k < w.heap.size) (hs : s ≤ 140737488355328) (hf : ∀ k, k < s → 0 ≤ f k ∧ f k < 256) (addr : Int) (ha : 0 ≤ addr ∧ addr < 18446744073709551616) (hh : hasB base n addr s = true) :
    Calls Tryz.prog 51 #[.agg #[.pointer (some ⟨h1, 0, none⟩), .pointer (some ⟨h2, 0, none⟩)], .int .u64 addr, .slice A s c] w fun e w' => e = .returned (.tuple #[]) ∧ ∃ F1' F2', Duo W w' h1 h2 base n (fl mem (addr - base).toNat s f) F1' F2' ∧ (∀ k, k < w.heap.size → F1' k → F1 k) ∧ (∀ k, k < w.heap.size → F2' k → F2 k) ∧ Mod (fun k => F1 k ∨ F2 k) w w' := by
  have TC1 := Lib.hid (fun (X : World) (b : Below w.heap.size w X) => (Mem.copyBytes_any (W := X) (A := A) (n := s) (c := c) (f := f) (G := G) ⟨r.rd.below b fun k hk => (hG k hk).2.2, r.nil_⟩ hs).mono fun e w' h => (by
    obtain ⟨v, e, own, bl⟩ := h
    obtain ⟨B, cap, rfl, rd⟩ := own_rd own hf
    exact ⟨B, cap, e, rd, bl⟩ : ∃ B cap, e = .returned (.slice B s cap) ∧ Rd w' B s f (fun k => X.heap.size ≤ k ∧ k < w'.heap.size) ∧ Below X.heap.size X w'))
  have TR := Lib.hid (fun (X Y : World) (b : Below w.heap.size w X) (b2 : Below X.heap.size X Y) (B : Option Addr) (cap : Nat) (rd : Rd Y B s f (fun k => X.heap.size ≤ k ∧ k < Y.heap.size)) =>
    Mem.fill_yes (c := cap) ((d.one.below b).below b2) addr rd (fun k hk => ⟨fun h => by have := d.bound k (.inl h); have := b.size; omega, hk.2⟩) ha hh)
  have TS := Lib.hid (fun (X Y : World) (b : Below w.heap.size w X) (m : Mod F1 X Y) => Ref.fill_yes (c := c) ((d.two.below b).mod m fun k h2 h1 => d.apart k h1 h2) addr ((r.rd.below b fun k hk => (hG k hk).2.2).mod m (fun k hk => (hG k hk).1) fun k hk => Nat.lt_of_lt_of_le (hG k hk).2.2 b.size) (fun k hk => ⟨(hG k hk).2.1, by have := (hG k hk).2.2; have := b.size; have := m.size; omega⟩) ha hh)
  have D := Lib.hid d
  clear d r hG hs hf ha hh
  go_enter Tryz.func51, Tryz.ntmps51
  have ST := Lib.hid (Kn.nil (S := Step.Nil) (W := w))
  go_wp2_with (((with_reducible refine Step.gate_box (t := 40) rfl ?_); refine Step.fresh (cs := #[.pointer (some ⟨h1, 0, none⟩), .pointer (some ⟨h2, 0, none⟩)]) (T := 40) rfl ?hr ?_; (case hr => first | (go_simp; done) | (go_simp; rfl)); intro g1 w1 b hg hb; replace ST := Lib.hid (ST.out.made b hg hb); clear b hb; have HG := Lib.hid hg; clear hg))
  have c0 := ST.out.at0.cell 0
  simp only [List.getElem?_toArray, List.getElem?_cons_zero] at c0
  go_region_held3 (fun w' => w'.cell? ⟨g1, 0, none⟩ = some (.pointer (some ⟨h1, 0, none⟩))) (first | (go_keep; done) | exact G1.out.cell 0 | exact ST.out.at0.cell 0)
    ((first
    | (go_at_call 81; (with_reducible refine (TC1.out _ (ST.out.call (Below.drew (Below.refl _ _))).below).mono ?_); rintro e wc ⟨B, cap, rfl, rd, hb⟩; have S0 := Lib.hid (ST.out.call (Below.drew (Below.refl _ _))).below; have RD := Lib.hid rd; have CB := Lib.hid hb; replace ST := Lib.hid ((ST.out.call (Below.drew (Below.refl _ _))).call hb); clear rd hb)
    | (go_at_call 80; (with_reducible refine (TR.out _ _ S0.out CB.out _ _ RD.out).mono ?_); rintro e w3 ⟨rfl, r, m⟩; have R1 := Lib.hid r; have M1 := Lib.hid m; have G1 := Lib.hid (ST.out.at0.mod m fun h => by have := D.out.bound _ (.inl h); have := HG.out; omega); clear r m)))
  go_wp2_with (first
    | ((with_reducible refine Step.gate_load (t := 38) rfl ?_); refine Step.load G1.out rfl rfl rfl pl_pr3 rfl ?_)
    | (go_at_call 82; (with_reducible refine (TS.out _ _ ST.out.below M1.out).mono ?_); rintro e w4 ⟨rfl, r, m⟩; have R2 := Lib.hid r; have M2 := Lib.hid m; clear r m))
  go_end0
  have dd := (D.out.below ST.out.below).step R1.out M1.out R2.out M2.out
  have hs := ST.out.below.size
  refine ⟨rfl, _, _, dd, fun k hk h => h.elim id fun h => by omega, fun k hk h => h.elim id fun h => by have := M1.out.size; omega, ?_⟩
  refine ((Mod.of_below ST.out.below _).trans (M1.out.mono fun k _ h => .inl h)).trans (M2.out.mono fun k _ h => .inr h)
end Go.Proofs.YthkodjkkcgdmfaaGreat.Hart
end
