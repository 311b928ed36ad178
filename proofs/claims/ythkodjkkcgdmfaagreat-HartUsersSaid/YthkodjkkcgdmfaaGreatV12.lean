/- Parts of the walks and laws for the claim: Step2, Own, RamE, RamF, Pair, Ref; no conditions beyond the theorems' own. -/
import Derived.Deep.RegionHeld3
import Derived.Laws.Cover3
import Derived.Test.YthkodjkkcgdmfaaGreatV8
import Derived.Test.YthkodjkkcgdmfaaGreatV11
section
namespace Go.Proofs.YthkodjkkcgdmfaaGreat.Hart
open Go Go.RowKit Go.Proofs.YthkodjkkcgdmfaaGreat.Step Go.Proofs.YthkodjkkcgdmfaaGreat.Enc Go.Proofs.YthkodjkkcgdmfaaGreat.Kn
open Go.Proofs.YthkodjkkcgdmfaaGreat.Mem (Ram Grow hasB wholeB num wr)
set_option linter.unusedVariables false
set_option linter.unusedSimpArgs false
set_option maxRecDepth 100000
set_option maxHeartbeats 4000000 in
theorem do_first {W : World} {b gc gm : Nat} {tv km : Value} {root vmid : Int} (hx : Blk W b #[.pointer (some ⟨gc, 0, none⟩)] 36) (hb : Blk W gc (ccg gm tv root vmid 0 0 km) TC) (hne : b ≠ gc) :
    Calls Tryz.prog 57 #[.pointer (some ⟨gc, 4, none⟩), .func (.func 58) #[] #[.pointer (some ⟨b, 0, none⟩)]] W fun e w' => e = .returned (.tuple #[]) ∧ ∃ r, W.heap.size ≤ r ∧ Blk w' gc (ccg gm tv root vmid 1 0 (.map (some r))) TC ∧ Mod (One gc) W w' ∧ w'.heap[r]? = some (.map kindsE 20) := by
  have hnot := fcall_not
  have T0 := Lib.hid (doSlow hx hb hne)
  have TD := Lib.hid (isDone hb false rfl)
  clear hx hb hne
  go_enter Tryz.func57, Tryz.ntmps57
  go_wp2_with (first
    | (go_at_call 85; (with_reducible refine (TD.out).mono ?_); rintro e w' ⟨rfl, rfl⟩)
    | (go_at_call 86; (with_reducible refine (T0.out).mono ?_); rintro e w' ⟨rfl, hq⟩; have HQ := Lib.hid hq; clear hq))
  all_goals (first | go_ret | go_end0 | refine bodyPost_ret (results_none rfl _ _ _) rfl ?_)
  exact ⟨rfl, HQ.out⟩
set_option maxHeartbeats 4000000 in
theorem do_more {W : World} {b gc gm : Nat} {tv km : Value} {root vmid : Int} (hb : Blk W gc (ccg gm tv root vmid 1 0 km) TC) :
    Calls Tryz.prog 57 #[.pointer (some ⟨gc, 4, none⟩), .func (.func 58) #[] #[.pointer (some ⟨b, 0, none⟩)]] W fun e w' => e = .returned (.tuple #[]) ∧ w' = W := by
  have hnot := fcall_not
  have TD := Lib.hid (isDone hb true rfl)
  clear hb
  go_enter Tryz.func57, Tryz.ntmps57
  go_wp2_with (go_at_call 85; (with_reducible refine (TD.out).mono ?_); rintro e w' ⟨rfl, rfl⟩)
  all_goals (first | go_ret | go_end0 | refine bodyPost_ret (results_none rfl _ _ _) rfl ?_)
  exact ⟨rfl, rfl⟩
/-- A step at its beginning. -/
def newS (gc : Nat) (now : Int) (h : Hrt) : Stp := { gc := gc, was := h, h := h, dry := false, now := now, k := 0, fn := 0, rd := 0, rs1 := 0, rs2 := 0, imm := 0, sz := 0, sg := false, long := 0, bits := 0, ek := 0, ea := 0, eva := 0, egpa := 0, ewalk := false, ewrote := false }
def zS : Stp := newS 0 0 zh
theorem zero_step : (Tryz.prog.info? 85).bind (·.zero) = some (.agg ((sc zS).setIfInBounds 0 (.pointer none))) := by kernel_rfl
theorem lays_was (s : Stp) (h' : Hrt) : lays (sc s) 3 (hc h').toList = sc { s with was := h' } := by
  refine Array.toList_inj.1 ((lays_list _ _ _ (Nat.le_of_ble_eq_true rfl)).trans rfl)
theorem fold_lays (off : Nat) : ∀ (vs : List Value) (k : Nat) (cs : Array Value), (vs.zipIdx k).foldl (fun cs (c, j) => cs.setIfInBounds (off + j) c) cs = lays cs (off + k) vs
  | [], _, _ => rfl
  | v :: r, k, cs => by
    rw [List.zipIdx_cons, List.foldl_cons]
    exact fold_lays off r (k + 1) _
theorem fill_at {place : Nat → Option (Nat × Nat)} {cells : Array Value} {i off size : Nat} {v : Value} {rest : List (Nat × Value)} (hp : place i = some (off, size)) (hs : v.cells.size = size) (hle : off + size ≤ cells.size) :
    Instr.fill place cells ((i, v) :: rest) = Instr.fill place (lays cells off v.cells.toList) rest := by
  subst hs
  have e : v.cells.zipIdx.foldl (fun cs (c, j) => cs.setIfInBounds (off + j) c) cells = lays cells off v.cells.toList := by
    rw [← Array.foldl_toList, Array.toList_zipIdx]
    exact fold_lays off _ 0 _
  simp only [Instr.fill, hp]
  rw [if_neg (by simp; omega), e]
def placesS : Array (Nat × Nat) := #[(0, 1), (1, 1), (2, 1), (3, 49), (52, 49), (101, 8), (109, 1), (110, 1), (111, 6)]
theorem fill_new (gc : Nat) (now : Int) (h : Hrt) : Instr.fill (placesS[·]?) ((sc zS).setIfInBounds 0 (.pointer none)) [(0, .pointer (some ⟨gc, 0, none⟩)), (2, .int .u64 now), (3, .agg (hc h)), (4, .agg (hc h))] = some (sc (newS gc now h)) := by
  rw [fill_at (off := 0) (size := 1) rfl rfl (Nat.le_of_ble_eq_true rfl)]
  rw [show lays ((sc zS).setIfInBounds 0 (.pointer none)) 0 (Value.pointer (some ⟨gc, 0, none⟩)).cells.toList = sc (newS gc 0 zh) from rfl]
  rw [fill_at (off := 2) (size := 1) rfl rfl (Nat.le_of_ble_eq_true rfl)]
  rw [show lays (sc (newS gc 0 zh)) 2 (Value.int .u64 now).cells.toList = sc (newS gc now zh) from rfl]
  rw [fill_at (off := 3) (size := 49) rfl rfl (Nat.le_of_ble_eq_true rfl)]
  rw [show (Value.agg (hc h)).cells = hc h from rfl, lays_was]
  rw [fill_at (off := 52) (size := 49) rfl rfl (Nat.le_of_ble_eq_true rfl)]
  rw [show (Value.agg (hc h)).cells = hc h from rfl, lays_h]
  rfl
theorem places_run (W : World) : ∃ fs, Tryz.prog.underlying 85 = some (.struct fs) ∧ (fs.mapM fun f => do pure (f.offset, ← sizeOf f.type) : Sem (Array (Nat × Nat))).run Tryz.prog W = .ok placesS W := by
  refine ⟨_, Tryz.underlying85, ?_⟩
  unfold placesS
  first | (go_simp; done) | (go_simp; rfl)
theorem run_build {P : Program} {t : TypeId} {fs : Array Field} {places : Array (Nat × Nat)} {z cells : Array Value} {parts : Array (Nat × Value)} {W : World} (hu : P.underlying t = some (.struct fs)) (hz : (P.info? t).bind (·.zero) = some (.agg z)) (hp : (fs.mapM fun f => do pure (f.offset, ← sizeOf f.type) : Sem (Array (Nat × Nat))).run P W = .ok places W)
    (hf : Instr.fill (places[·]?) z parts.toList = some cells) : (Instr.build t parts).run P W = .ok (.agg cells) W := by
  have hz' : (zeroValue t).run P W = .ok (.agg z) W := by
    cases hi : P.info? t with
    | none => rw [hi] at hz; cases hz
    | some i =>
      rw [hi] at hz
      have e : i.zero = some (.agg z) := hz
      simp [zeroValue, typeInfo, hi, e]
  unfold Instr.build
  simp only [Sem.run_bind, hz', Result.andThen_ok, run_underlying hu W, hp]
  rw [show (Value.agg z).cells = z from rfl, hf]
  rfl
theorem build_new {a : Act} {o : Oper} {x0 x2 x3 x4 : Operand} {gc : Nat} {now : Int} {h : Hrt} (ho : o.op = .build 85 #[(0, x0), (2, x2), (3, x3), (4, x4)]) (h0 : a.eval x0 = .pointer (some ⟨gc, 0, none⟩)) (h2 : a.eval x2 = .int .u64 now) (h3 : a.eval x3 = .agg (hc h)) (h4 : a.eval x4 = .agg (hc h)) (W : World) :
    (execOp a.eval o).run Tryz.prog W = .ok (.value (.agg (sc (newS gc now h)))) W := by
  obtain ⟨fs, hu, hp⟩ := places_run W
  have hb := run_build (P := Tryz.prog) (t := 85) (parts := #[(0, .pointer (some ⟨gc, 0, none⟩)), (2, .int .u64 now), (3, .agg (hc h)), (4, .agg (hc h))]) hu zero_step hp (fill_new gc now h)
  simp only [execOp, ho, List.map_toArray, List.map_cons, List.map_nil, h0, h2, h3, h4, Sem.run_bind, hb, Result.andThen_ok, Sem.run_pure]
theorem gate_buildS {P : Program} {ops : Array Oper} {rest : List Oper} {o : Oper} {a : Act} {W : World} {Q : Exit → Act → World → Prop} {t : TypeId} {x : Array (Nat × Operand)} (_ : o.op = .build t x) (h : wpList P ops Q (o :: rest) a W) : wpList P ops Q (o :: rest) a W := h
theorem heap_below {w w' : World} {r : Nat} {x : Obj} (h : w.heap[r]? = some x) (hb : Below w.heap.size w w') : w'.heap[r]? = some x := (hb.block r (Array.getElem?_eq_some_iff.1 h).1).trans h
theorem heap_mod {w w' : World} {r : Nat} {x : Obj} {S : Nat → Prop} (h : w.heap[r]? = some x) (m : Mod S w w') (hs : ¬ S r) : w'.heap[r]? = some x := (m.block r (Array.getElem?_eq_some_iff.1 h).1 hs).trans h
set_option maxHeartbeats 8000000 in
theorem begin_first {W : World} {gc gm : Nat} {tv km : Value} {root vmid : Int} (hb : Blk W gc (ccg gm tv root vmid 0 0 km) TC) (h : Hrt) (hf : Fit h) (now : Int) :
    Calls Tryz.prog 38 #[.pointer (some ⟨gc, 0, none⟩), .agg (hc h), .int .u64 now] W fun e w' => ∃ gs, e = .returned (.pointer (some ⟨gs, 0, none⟩)) ∧ W.heap.size ≤ gs ∧ Blk w' gs (sc (newS gc now (ord h))) TS ∧ ∃ r, W.heap.size ≤ r ∧ Blk w' gc (ccg gm tv root vmid 1 0 (.map (some r))) TC ∧ Mod (One gc) W w' ∧ w'.heap[r]? = some (.map kindsE 20) := by
  have TO := Lib.hid (order_any h hf)
  have HC := Lib.hid hb
  have HLT := Lib.hid hb.lt
  clear hb hf
  generalize ord h = h2 at *
  go_enter Tryz.func38, Tryz.ntmps38
  go_wp2_with (first
    | ((with_reducible refine Step.gate_box (t := 36) rfl ?_); refine Step.fresh (cs := #[.pointer (some ⟨gc, 0, none⟩)]) (T := 36) rfl ?hr ?_; (case hr => first | (go_simp; done) | (go_simp; rfl)); intro g3 w1 b hg hb; have HX := Lib.hid b; have HXG := Lib.hid hg; have HM := Lib.hid (Mod.of_below hb (One gc)); replace HC := Lib.hid (HC.out.below hb); clear b hb hg)
    | ((with_reducible refine Step.gate_box (t := 25) rfl ?_); refine Step.fresh (cs := hc h) (T := 25) rfl ?hr2 ?_; (case hr2 => first | (go_simp; done) | (go_simp; rfl)); intro g4 w1 b hg hb; have HH := Lib.hid b; have HG4 := Lib.hid (show W.heap.size ≤ g4 from Nat.le_trans HM.out.size hg); have HHG := Lib.hid (show g3 ≠ g4 from fun e => by have := HX.out.lt; omega); have HHC := Lib.hid (show g4 ≠ gc from fun e => by have := HC.out.lt; omega); replace HX := Lib.hid (HX.out.below hb); replace HM := Lib.hid (HM.out.trans (Mod.of_below hb _)); replace HC := Lib.hid (HC.out.below hb); clear b hb hg)
    | ((with_reducible refine Step.gate_load (t := 36) rfl ?_); refine Step.load (v := .pointer (some ⟨gc, 0, none⟩)) HX.out rfl rfl rfl pl_pc rfl ?_)
    | ((with_reducible refine Step.gate_load (t := 25) rfl ?_); refine Step.loadAll HH.out rfl rfl rfl Tryz.underlying25 rfl (size_hart _) ?_)
    | ((with_reducible refine Step.gate_store (t := 25) rfl ?_); refine Step.storeAll HH.out rfl rfl rfl rfl rfl (size_hart _) rfl (hc_all _) ?_; intro w3 nb m; replace HH := Lib.hid nb; replace HX := Lib.hid (HX.out.one m HHG.out); replace HC := Lib.hid (HC.out.one m HHC.out.symm); replace HM := Lib.hid (HM.out.trans_new m fun k hk e => by have e' : k = g4 := e; exact absurd hk (by have := HG4.out; omega)); replace HK := Lib.hid (heap_mod HK.out m HRG.out); clear nb m)
    | (go_at_call 30; (with_reducible refine (TO.out _).mono ?_); rintro e w' ⟨rfl, hb⟩; replace HX := Lib.hid (HX.out.below hb); replace HH := Lib.hid (HH.out.below hb); replace HM := Lib.hid (HM.out.trans (Mod.of_below hb _)); replace HC := Lib.hid (HC.out.below hb); replace HK := Lib.hid (heap_below HK.out hb); clear hb)
    | ((with_reducible refine gate_buildS (t := 85) rfl ?_); refine Step.value (v := .agg (sc (newS gc now h2))) rfl (build_new rfl rfl rfl rfl rfl _) ?_)
    | ((with_reducible refine Step.gate_box (t := 85) rfl ?_); refine Step.fresh (cs := sc (newS gc now h2)) (T := 85) rfl ?hr ?_; (case hr => first | (go_simp; done) | (go_simp; rfl)); intro g9 w1 b hg hb; have HG := Lib.hid (Nat.le_trans HM.out.size hg); replace HK := Lib.hid (heap_below HK.out hb); replace HM := Lib.hid (HM.out.trans (Mod.of_below hb _)); replace HC := Lib.hid (HC.out.below hb); have HS := Lib.hid b; clear b hb hg)
    | (go_at_call 57; (with_reducible refine (do_first HX.out HC.out (by have := HXG.out; have := HLT.out; omega)).mono ?_); rintro e w' ⟨rfl, r, hr, nb, m, hk⟩; have HR := Lib.hid (Nat.le_trans HM.out.size hr); have HK := Lib.hid hk; have HRG := Lib.hid (show ¬ One g4 r from fun e => by have e' : r = g4 := e; have := HH.out.lt; omega); replace HC := Lib.hid nb; replace HX := Lib.hid (HX.out.one m (by have := HXG.out; have := HLT.out; omega)); replace HH := Lib.hid (HH.out.one m HHC.out); replace HM := Lib.hid (HM.out.trans m); clear hr nb m hk))
  go_ret
  exact ⟨g9, rfl, HG.out, HS.out, r, HR.out, HC.out, HM.out, HK.out⟩
set_option maxHeartbeats 8000000 in
theorem begin_more {W : World} {gc gm : Nat} {tv km : Value} {root vmid : Int} (hb : Blk W gc (ccg gm tv root vmid 1 0 km) TC) (h : Hrt) (hf : Fit h) (now : Int) :
    Calls Tryz.prog 38 #[.pointer (some ⟨gc, 0, none⟩), .agg (hc h), .int .u64 now] W fun e w' => ∃ gs, e = .returned (.pointer (some ⟨gs, 0, none⟩)) ∧ W.heap.size ≤ gs ∧ Blk w' gs (sc (newS gc now (ord h))) TS ∧ Blk w' gc (ccg gm tv root vmid 1 0 km) TC ∧ Mod (One gc) W w' := by
  have TO := Lib.hid (order_any h hf)
  have HC := Lib.hid hb
  have HLT := Lib.hid hb.lt
  clear hb hf
  generalize ord h = h2 at *
  go_enter Tryz.func38, Tryz.ntmps38
  go_wp2_with (first
    | ((with_reducible refine Step.gate_box (t := 36) rfl ?_); refine Step.fresh (cs := #[.pointer (some ⟨gc, 0, none⟩)]) (T := 36) rfl ?hr ?_; (case hr => first | (go_simp; done) | (go_simp; rfl)); intro g3 w1 b hg hb; have HX := Lib.hid b; have HXG := Lib.hid hg; have HM := Lib.hid (Mod.of_below hb (One gc)); replace HC := Lib.hid (HC.out.below hb); clear b hb hg)
    | ((with_reducible refine Step.gate_box (t := 25) rfl ?_); refine Step.fresh (cs := hc h) (T := 25) rfl ?hr2 ?_; (case hr2 => first | (go_simp; done) | (go_simp; rfl)); intro g4 w1 b hg hb; have HH := Lib.hid b; have HG4 := Lib.hid (show W.heap.size ≤ g4 from Nat.le_trans HM.out.size hg); have HHG := Lib.hid (show g3 ≠ g4 from fun e => by have := HX.out.lt; omega); have HHC := Lib.hid (show g4 ≠ gc from fun e => by have := HC.out.lt; omega); replace HX := Lib.hid (HX.out.below hb); replace HM := Lib.hid (HM.out.trans (Mod.of_below hb _)); replace HC := Lib.hid (HC.out.below hb); clear b hb hg)
    | ((with_reducible refine Step.gate_load (t := 36) rfl ?_); refine Step.load (v := .pointer (some ⟨gc, 0, none⟩)) HX.out rfl rfl rfl pl_pc rfl ?_)
    | ((with_reducible refine Step.gate_load (t := 25) rfl ?_); refine Step.loadAll HH.out rfl rfl rfl Tryz.underlying25 rfl (size_hart _) ?_)
    | ((with_reducible refine Step.gate_store (t := 25) rfl ?_); refine Step.storeAll HH.out rfl rfl rfl rfl rfl (size_hart _) rfl (hc_all _) ?_; intro w3 nb m; replace HH := Lib.hid nb; replace HX := Lib.hid (HX.out.one m HHG.out); replace HC := Lib.hid (HC.out.one m HHC.out.symm); replace HM := Lib.hid (HM.out.trans_new m fun k hk e => by have e' : k = g4 := e; exact absurd hk (by have := HG4.out; omega)); clear nb m)
    | (go_at_call 30; (with_reducible refine (TO.out _).mono ?_); rintro e w' ⟨rfl, hb⟩; replace HX := Lib.hid (HX.out.below hb); replace HH := Lib.hid (HH.out.below hb); replace HM := Lib.hid (HM.out.trans (Mod.of_below hb _)); replace HC := Lib.hid (HC.out.below hb); clear hb)
    | ((with_reducible refine gate_buildS (t := 85) rfl ?_); refine Step.value (v := .agg (sc (newS gc now h2))) rfl (build_new rfl rfl rfl rfl rfl _) ?_)
    | ((with_reducible refine Step.gate_box (t := 85) rfl ?_); refine Step.fresh (cs := sc (newS gc now h2)) (T := 85) rfl ?hr ?_; (case hr => first | (go_simp; done) | (go_simp; rfl)); intro g9 w1 b hg hb; have HG := Lib.hid (Nat.le_trans HM.out.size hg); replace HM := Lib.hid (HM.out.trans (Mod.of_below hb _)); replace HC := Lib.hid (HC.out.below hb); have HS := Lib.hid b; clear b hb hg)
    | (go_at_call 57; (with_reducible refine (do_more HC.out).mono ?_); rintro e w' ⟨rfl, rfl⟩))
  go_ret
  exact ⟨g9, rfl, HG.out, HS.out, HC.out, HM.out⟩
/-- A core, before its first step or behind one; its memory. -/
structure Kor (W : World) (gc gm : Nat) (tv : Value) (vmid base : Int) (n : Nat) (mem : Nat → Int) (F : Nat → Prop) : Prop where
  core : (∃ km, Blk W gc (ccg gm tv 0 vmid 0 0 km) TC) ∨ ∃ r, Blk W gc (ccg gm tv 0 vmid 1 0 (.map (some r))) TC ∧ W.heap[r]? = some (.map kindsE 20) ∧ ¬ F r
  ram : Ram W gm base n mem F
  nF : ¬ F gc
theorem Kor.lt {W : World} {gc gm n : Nat} {tv : Value} {vmid base : Int} {mem : Nat → Int} {F : Nat → Prop} (h : Kor W gc gm tv vmid base n mem F) : gc < W.heap.size := by
  rcases h.core with ⟨km, b⟩ | ⟨r, b, _⟩ <;> exact b.lt
theorem Kor.mod {W w : World} {gc gm n : Nat} {tv : Value} {vmid base : Int} {mem : Nat → Int} {F S : Nat → Prop} (h : Kor W gc gm tv vmid base n mem F) (m : Mod S W w) (h1 : ¬ S gc) (h2 : ∀ k, F k → ¬ S k) (h3 : ∀ r, W.heap[r]? = some (.map kindsE 20) → ¬ S r) : Kor w gc gm tv vmid base n mem F :=
  ⟨h.core.imp (fun ⟨km, b⟩ => ⟨km, b.mod m h1⟩) fun ⟨r, b, hk, hr⟩ => ⟨r, b.mod m h1, heap_mod hk m (h3 r hk), hr⟩, h.ram.mod m h2, h.nF⟩
theorem Kor.below {W w : World} {gc gm n : Nat} {tv : Value} {vmid base : Int} {mem : Nat → Int} {F : Nat → Prop} (h : Kor W gc gm tv vmid base n mem F) (b : Below W.heap.size W w) : Kor w gc gm tv vmid base n mem F := h.mod (Mod.of_below b Nil) (fun h => h) (fun _ _ h => h) (fun _ _ h => h)
theorem cell_map {w : World} {g r : Nat} {cs : Array Value} {T : TypeId} {es : Array MapEntry} {c : Nat} (b : Blk w g cs T) (h : w.heap[r]? = some (.map es c)) : g ≠ r := fun e => by
  subst e
  rw [b.out] at h
  cases h
theorem kt_rest (r : Nat) : Rest (fun k => k = r) (KT r (fun _ => True)) := ⟨fun w w' S h m hs => ⟨heap_mod h.1 m (hs r rfl), trivial⟩⟩
theorem begin_any {W : World} {gc gm n : Nat} {tv : Value} {vmid base : Int} {mem : Nat → Int} {F : Nat → Prop} (hk : Kor W gc gm tv vmid base n mem F) (h : Hrt) (hf : Fit h) (now : Int) :
    Calls Tryz.prog 38 #[.pointer (some ⟨gc, 0, none⟩), .agg (hc h), .int .u64 now] W fun e w' => ∃ gs r, e = .returned (.pointer (some ⟨gs, 0, none⟩)) ∧ W.heap.size ≤ gs ∧ Mod (One gc) W w' ∧ ¬ F r ∧ Sy w' gs (newS gc now (ord h)) gm tv 0 vmid (.map (some r)) base n mem F (fun k => k = r) (KT r (fun _ => True)) := by
  have key : ∀ {w' : World} {gs r : Nat}, W.heap.size ≤ gs → Blk w' gs (sc (newS gc now (ord h))) TS → Blk w' gc (ccg gm tv 0 vmid 1 0 (.map (some r))) TC → Mod (One gc) W w' → w'.heap[r]? = some (.map kindsE 20) → ¬ F r → Sy w' gs (newS gc now (ord h)) gm tv 0 vmid (.map (some r)) base n mem F (fun k => k = r) (KT r (fun _ => True)) := by
    intro w' gs r hgs hs hcb m hm hr
    have hlt := hk.lt
    have hram := hk.ram.mod m fun k hkF e => hk.nF ((e : k = gc) ▸ hkF)
    have hbd := hk.ram.bound
    exact ⟨hs, ⟨hcb, hram, kt_rest r, ⟨hm, trivial⟩, hk.nF, cell_map hcb hm, fun k hkF e => hr ((e : k = r) ▸ hkF), fun k e => by have e' : k = r := e; rw [e']; exact (Array.getElem?_eq_some_iff.1 hm).1⟩,
      fun hF => by have := hbd gs hF; omega, cell_map hs hm, fun e => by have e' : gs = gc := e; omega⟩
  rcases hk.core with ⟨km, b⟩ | ⟨r, b, hm, hr⟩
  · refine (begin_first b h hf now).mono ?_
    rintro e w' ⟨gs, he, hgs, hs, r, hrl, hcb, m, hm⟩
    have hr : ¬ F r := fun hF => by have := hk.ram.bound r hF; omega
    exact ⟨gs, r, he, hgs, m, hr, key hgs hs hcb m hm hr⟩
  · refine (begin_more b h hf now).mono ?_
    rintro e w' ⟨gs, he, hgs, hs, hcb, m⟩
    exact ⟨gs, r, he, hgs, m, hr, key hgs hs hcb m (heap_mod hm m fun e => cell_map b hm (e : r = gc).symm) hr⟩
theorem results_rows {P : Program} {fn : Func} {p q : Tmp} {ty ty2 : TypeId} (h : fn.results = #[.cell p ty, .cell q ty2]) (tmps : Array Value) (w : World) (g g2 : Nat) (t t2 : TypeId) (cs cs2 : Array Value) (d d2 : TypeDesc)
    (hp : tmps.getD p undef = .pointer (some ⟨g, 0, none⟩)) (hq : tmps.getD q undef = .pointer (some ⟨g2, 0, none⟩)) (hg : Blk w g cs t) (hg2 : Blk w g2 cs2 t2) (hu : P.underlying ty = some d) (hu2 : P.underlying ty2 = some d2)
    (hd : (match d with | .struct _ | .array _ _ => true | _ => false) = true) (hd2 : (match d2 with | .struct _ | .array _ _ => true | _ => false) = true) (hi : (P.info? ty).map (·.size) = some cs.size) (hi2 : (P.info? ty2).map (·.size) = some cs2.size) :
    (results fn tmps).run P w = .ok (.tuple #[.agg cs, .agg cs2]) w := by
  have h1 := run_loadVar_row (P := P) w g t ty cs (0, 0) d hg.out hu hd hi
  have h2 := run_loadVar_row (P := P) w g2 t2 ty2 cs2 (0, 0) d2 hg2.out hu2 hd2 hi2
  have e : (results fn tmps).run P w = ((asAddr (tmps.getD p undef)).run P w).andThen fun a w₁ => ((loadVar ty a).run P w₁).andThen fun v w₂ => ((asAddr (tmps.getD q undef)).run P w₂).andThen fun a2 w₃ => ((loadVar ty2 a2).run P w₃).andThen fun v2 w₄ => .ok (.tuple #[v, v2]) w₄ := by
    simp only [results, h]
    simp [Sem.run_bind, Result.andThen]
  rw [e, hp, hq]
  simp only [asAddr, Sem.run_pure, Result.andThen_ok, h1, h2]
theorem lays_hc (h h' : Hrt) : lays (hc h) 0 (hc h').toList = hc h' := by
  refine Array.toList_inj.1 ((lays_list _ _ _ (Nat.le_of_ble_eq_true rfl)).trans rfl)
set_option maxHeartbeats 8000000 in
theorem step_any {W : World} {gc gm n : Nat} {tv : Value} {vmid base : Int} {mem mem2 : Nat → Int} {F : Nat → Prop} {s2 : Stp} (hk : Kor W gc gm tv vmid base n mem F) (h : Hrt) (hf : Fit h) (now : Int) (hg2 : s2.gc = gc)
    (HR : ∀ (W' : World) (gs r : Nat), Sy W' gs (newS gc now (ord h)) gm tv 0 vmid (.map (some r)) base n mem F (fun k => k = r) (KT r (fun _ => True)) → Calls Tryz.prog 39 #[.pointer (some ⟨gs, 0, none⟩)] W' fun e w' => e = .returned (.tuple #[]) ∧ Out W' w' gs s2 gm tv 0 vmid (.map (some r)) base n mem2 F (fun k => k = r) (KT r (fun _ => True))) :
    Calls Tryz.prog 23 #[.pointer (some ⟨gc, 0, none⟩), .agg (hc h), .int .u64 now] W fun e w' => e = .returned (.tuple #[.agg (hc s2.h), .agg (ecells s2)]) ∧ ∃ F', Kor w' gc gm tv vmid base n mem2 F' ∧ Mod (fun k => k = gc ∨ F k) W w' ∧ ∀ k, F' k → F k ∨ W.heap.size ≤ k := by
  have HK := Lib.hid hk
  have HF := Lib.hid hf
  replace HR := Lib.hid HR
  have HLT := Lib.hid hk.lt
  have HBD := Lib.hid hk.ram.bound
  clear hk hf
  go_enter Tryz.func23, Tryz.ntmps23
  go_wp2_with (first
    | ((with_reducible refine Step.gate_box (t := 25) rfl ?_); refine Step.fresh (cs := hc h) (T := 25) rfl ?hr ?_; (case hr => first | (go_simp; done) | (go_simp; rfl)); intro g4 w1 b hg hb; have B4 := Lib.hid b; have HB := Lib.hid hb; clear b hb hg)
    | ((with_reducible refine Step.gate_alloc (t := 25) rfl ?_); refine Step.freshAlloc rfl rfl (alloc_agg zero_hart) ?_; intro g6 w2 b hg hb; have B6 := Lib.hid b; have G6 := Lib.hid (Nat.le_trans HB.out.size hg); replace B4 := Lib.hid (B4.out.below hb); replace HB := Lib.hid (below_below HB.out hb); clear b hb hg)
    | ((with_reducible refine Step.gate_alloc (t := 46) rfl ?_); refine Step.freshAlloc rfl rfl (alloc_agg zero_ev) ?_; intro g7 w2 b hg hb; have B7 := Lib.hid b; have G67 := Lib.hid (show g6 ≠ g7 from fun e => by have := B6.out.lt; omega); have G7 := Lib.hid (Nat.le_trans HB.out.size hg); replace B4 := Lib.hid (B4.out.below hb); replace B6 := Lib.hid (B6.out.below hb); replace HB := Lib.hid (below_below HB.out hb); clear b hb hg)
    | ((with_reducible refine Step.gate_load (t := 25) rfl ?_); refine Step.loadAll B4.out rfl rfl rfl Tryz.underlying25 rfl (size_hart _) ?_)
    | (go_at_call 38; (with_reducible refine (begin_any (HK.out.below HB.out) h HF.out now).mono ?_); rintro e wb ⟨gs, r, rfl, hgs, m, hr, hy⟩; have L6 := Lib.hid (Nat.lt_of_lt_of_le B6.out.lt m.size); have L7 := Lib.hid (Nat.lt_of_lt_of_le B7.out.lt m.size); have HS6 := Lib.hid (show g6 ≠ gs from fun e => by have := B6.out.lt; omega); have HS7 := Lib.hid (show g7 ≠ gs from fun e => by have := B7.out.lt; omega); replace B6 := Lib.hid (B6.out.one m (by have := G6.out; have := HLT.out; omega)); replace B7 := Lib.hid (B7.out.one m (by have := G7.out; have := HLT.out; omega)); have HM := Lib.hid ((Mod.of_below HB.out (fun k => k = gc ∨ F k)).trans (m.mono fun k _ e => .inl e)); have HY := Lib.hid hy; have HRF := Lib.hid hr; have HSZ := Lib.hid (Nat.le_trans HB.out.size hgs); clear hgs m hr hy)
    | (go_at_call 39; (with_reducible refine (HR.out _ _ _ HY.out).mono ?_); rintro e wr ⟨rfl, ho⟩; have HO := Lib.hid ho; have HMr := Lib.hid (show Mod (fun k => k = gs ∨ F k) wb wr from ho.choose_spec.2.1); replace B6 := Lib.hid (B6.out.mod HMr.out (fun e => e.elim HS6.out fun hF => by have := HBD.out _ hF; have := G6.out; omega)); replace B7 := Lib.hid (B7.out.mod HMr.out (fun e => e.elim HS7.out fun hF => by have := HBD.out _ hF; have := G7.out; omega)); have BDR := Lib.hid (show Below wr.heap.size wr { wr with drawn := wr.drawn + 1 } from ⟨rfl, rfl, rfl, Nat.le_refl _, fun _ _ => rfl⟩); clear ho)
    | ((with_reducible refine Sq.regionJ (id := 3) (J := fun j X => Blk X gs (sc s2) TS ∧ Blk X g6 (hc (match j with | 0 => zh | _ => s2.h)) 25 ∧ Blk X g7 #[.int .i64 0, .int .i64 0, .int .u64 0, .int .u64 0, .bool false, .bool false] 46 ∧ Mod (One g6) wr X) ?hm6 9 [8] [.keep 0 0, .keep 0 0, .keep 0 0, .keep 0 0, .keep 0 1, .keep 0 1, .keep 0 1, .keep 0 1, .eff 0] ?hi6 ?hp6 ?hf6 ?hs6); (case hm6 => rfl); (case hi6 => exact ⟨HO.out.step.below BDR.out, B6.out.below BDR.out, B7.out.below BDR.out, Mod.of_below BDR.out _⟩); (case hp6 => kernel_rfl); (case hf6 => kernel_rfl); intro ops K hops hK; clear hops; dsimp only [List.take]; (repeat (first | (refine Sq.seqJ_move rfl rfl ?_; simp only [Act.put, Act.eval, Array.getD_eq_getD_getElem?, List.getElem?_toArray, List.getElem?_cons_zero, List.getElem?_cons_succ, Option.getD_some, List.setIfInBounds_toArray, List.set_cons_zero, List.set_cons_succ]) | (refine Sq.seqJ_check rfl rfl rfl ?_; simp only [Act.put, Act.eval, Array.getD_eq_getD_getElem?, List.getElem?_toArray, List.getElem?_cons_zero, List.getElem?_cons_succ, Option.getD_some, List.setIfInBounds_toArray, List.set_cons_zero, List.set_cons_succ]) | (refine Sq.seqJ_row (t := 25) (fun j _ _ X hX => hX.1) (Sq.wanted_none rfl) rfl rfl (fun j => row_h _) Tryz.underlying25 rfl (size_hart _) ?_; simp only [Act.put, Act.eval, Array.getD_eq_getD_getElem?, List.getElem?_toArray, List.getElem?_cons_zero, List.getElem?_cons_succ, Option.getD_some, List.setIfInBounds_toArray, List.set_cons_zero, List.set_cons_succ]) | (refine Sq.seqJ_row (t := 46) (fun j _ _ X hX => hX.1) (Sq.wanted_none rfl) rfl rfl (fun j => row_e _) Tryz.underlying46 rfl size_ev ?_; simp only [Act.put, Act.eval, Array.getD_eq_getD_getElem?, List.getElem?_toArray, List.getElem?_cons_zero, List.getElem?_cons_succ, Option.getD_some, List.setIfInBounds_toArray, List.set_cons_zero, List.set_cons_succ]) | (refine Sq.seqJ_storeRow (cs := hc zh) (vs := hc s2.h) (fun X hX => hX.2.1) rfl rfl rfl rfl rfl (size_hart _) rfl (hc_all _) (fun X X' hX nb m => ?_) ?_; · exact ⟨hX.1.one m HS6.out.symm, (lays_hc zh s2.h) ▸ nb, hX.2.2.1.one m G67.out.symm, hX.2.2.2.trans m⟩) | (refine' Sq.seqJ_pure rfl (fun X => _) _; rotate_left; (first | (go_simp; done) | (go_simp; rfl)); simp only [Act.put, Act.eval, Array.getD_eq_getD_getElem?, List.getElem?_toArray, List.getElem?_cons_zero, List.getElem?_cons_succ, Option.getD_some, List.setIfInBounds_toArray, List.set_cons_zero, List.set_cons_succ]))); refine Sq.seqJ_nil ?_; refine hK.out _ fun w1 hk => ?_; clear hK; have HJ := Lib.hid (show Blk w1 gs (sc s2) TS ∧ Blk w1 g6 (hc s2.h) _ ∧ Blk w1 g7 _ _ ∧ Mod (One g6) wr w1 from hk); clear hk; dsimp only [List.drop])
    | ((with_reducible refine Step.gate_store (t := 46) rfl ?_); refine Step.storeAll (vs := ecells s2) HJ.out.2.2.1 rfl rfl rfl rfl rfl size_ev rfl rfl ?_; intro w3 nb m; have H7 := Lib.hid nb; have H6 := Lib.hid (HJ.out.2.1.one m G67.out); have HM7 := Lib.hid m; clear nb m))
  refine bodyPost_ret (results_rows rfl _ _ g6 g7 _ _ _ _ _ _ rfl rfl H6.out H7.out Tryz.underlying25 Tryz.underlying46 rfl rfl (size_hart _) size_ev) rfl ⟨rfl, ?_⟩
  obtain ⟨F', y, m, c⟩ := HO.out
  have n6 : ∀ k, k < W.heap.size → ¬ One g6 k := fun k hk e => by have e' : k = g6 := e; have := G6.out; omega
  have n7 : ∀ k, k < W.heap.size → ¬ One g7 k := fun k hk e => by have e' : k = g7 := e; have := G7.out; omega
  have hF' : ∀ k, F' k → k ≠ g6 ∧ k ≠ g7 := by
    intro k hk
    have l6 := L6.out
    have l7 := L7.out
    have e6 := G6.out
    have e7 := G7.out
    rcases c k hk with hf | hf
    · have := HBD.out k hf
      exact ⟨by omega, by omega⟩
    · exact ⟨by omega, by omega⟩
  have m6 := HJ.out.2.2.2
  have m7 := HM7.out
  have lg := HLT.out
  have hm := HM.out
  have hsz := HSZ.out
  have r6 : g6 ≠ r := cell_map B6.out y.mc.tlb.1
  have r7 : g7 ≠ r := cell_map B7.out y.mc.tlb.1
  have ct := y.mc.tlb.1
  have cc := y.mc.core
  have cn := y.mc.nF
  have cr := y.mc.ram
  have cf := y.mc.fg r
  rw [hg2] at cc cn
  refine ⟨F', ⟨.inr ⟨r, (cc.mod m6 (n6 gc lg)).mod m7 (n7 gc lg), heap_mod (heap_mod ct m6 fun e => r6 (e : r = g6).symm) m7 fun e => r7 (e : r = g7).symm, fun hr => cf hr rfl⟩, (cr.mod m6 fun k hk e => (hF' k hk).1 e).mod m7 fun k hk e => (hF' k hk).2 e, cn⟩, ?_, fun k hk => (c k hk).imp id fun h => Nat.le_trans hm.size h⟩
  exact ((hm.trans_new m fun i hi e => e.elim (fun e => absurd hi (by omega)) .inr).trans_new m6 fun i hi e => absurd e (n6 i hi)).trans_new m7 fun i hi e => absurd e (n7 i hi)
end Go.Proofs.YthkodjkkcgdmfaaGreat.Hart
end
section
namespace Go.Proofs.YthkodjkkcgdmfaaGreat.Mem
open Go Go.RowKit Go.Proofs.YthkodjkkcgdmfaaGreat.Step
set_option linter.unusedVariables false
set_option linter.unusedSimpArgs false
set_option maxRecDepth 100000
/-- A memory that stands in blocks newer than the call's beginning. -/
structure Own (W w : World) (h : Nat) (base : Int) (n : Nat) (mem : Nat → Int) : Prop where
  ram : Ram w h base n mem (Grow Nil W w)
  mod : Mod Nil W w
theorem Own.below {W w w' : World} {h n : Nat} {base : Int} {mem : Nat → Int} (o : Own W w h base n mem) (b : Below w.heap.size w w') : Own W w' h base n mem :=
  ⟨(o.ram.below b).more (fun k hk => hk.elim .inl fun a => .inr ⟨a.1, Nat.lt_of_lt_of_le a.2 b.size⟩) (Grow.bound (fun k hk => hk.elim) (Nat.le_trans o.mod.size b.size)), o.mod.trans (Mod.of_below b Nil)⟩
theorem Own.drawn {W w w' : World} {h n : Nat} {base : Int} {mem : Nat → Int} (o : Own W w h base n mem) (b : ∃ k, w' = w.drewN k) : Own W w' h base n mem := o.below (below_drawn b)
theorem Own.step {W w w' : World} {h n : Nat} {base : Int} {mem mem' : Nat → Int} (o : Own W w h base n mem) (r : Ram w' h base n mem' (Grow (Grow Nil W w) w w')) (m : Mod (Grow Nil W w) w w') : Own W w' h base n mem' :=
  ⟨r.grow (fun k hk => hk.elim) o.mod.size m.size, mod_grow o.mod m⟩
theorem Own.made {W w w' : World} {h n : Nat} {base : Int} {mem : Nat → Int} (b : Mod Nil W w) (r : Ram w' h base n mem (Grow Nil w w')) (m : Mod Nil w w') : Own W w' h base n mem :=
  ⟨r.more (fun k hk => hk.elim .inl fun a => .inr ⟨Nat.le_trans b.size a.1, a.2⟩) (Grow.bound (fun k hk => hk.elim) (Nat.le_trans b.size m.size)), b.trans m⟩
theorem Own.out {W w : World} {h n : Nat} {base : Int} {mem : Nat → Int} (o : Own W w h base n mem) : Below W.heap.size W w := o.mod.below
theorem tmod_bd (v n : Int) (hn : 0 < n) : -n < v.tmod n ∧ v.tmod n < n := by
  have h1 := Int.tmod_lt_of_pos v hn
  have h2 := Int.tmod_lt_of_pos (-v) hn
  rw [Int.neg_tmod] at h2
  omega
theorem emod_tmod (v n : Int) (hn : 0 < n) : v % n = if v.tmod n < 0 then v.tmod n + n else v.tmod n := by
  have hb := tmod_bd v n hn
  have e := Int.mul_tdiv_add_tmod v n
  have e2 : v % n = v.tmod n % n := by
    conv => lhs; rw [← e]
    rw [Int.mul_add_emod_self_left]
  rw [e2]
  split
  · rw [← Int.add_emod_right, Int.emod_eq_of_lt (by omega) (by omega)]
  · rw [Int.emod_eq_of_lt (by omega) (by omega)]
set_option maxHeartbeats 400000 in
theorem place_any (v n : Int) (hn : 0 < n) (hv : -9223372036854775808 ≤ v ∧ v < 9223372036854775808) (hn2 : n < 9223372036854775808) (w : World) : Calls Tryz.prog 25 #[.int .i64 v, .int .i64 n] w fun e w' => e = .returned (.int .i64 (v % n)) ∧ w = w' := by
  have h0 : n ≠ 0 := by omega
  have hr := tmod_bd v n hn
  have hw : IntKind.i64.wrap (v.tmod n) = v.tmod n := IntWalk.i64_in _ (by omega)
  have he := emod_tmod v n hn
  by_cases hneg : v.tmod n < 0
  · rw [if_pos hneg] at he
    have E := Lib.hid he
    have hw2 : IntKind.i64.wrap (v.tmod n + n) = v.tmod n + n := IntWalk.i64_in _ (by omega)
    clear hr hv hn2 hn he
    go_enter Tryz.func25, Tryz.ntmps25
    go_wp2
    go_ret
    exact ⟨by rw [E.out]; rfl, rfl⟩
  · rw [if_neg hneg] at he
    have E := Lib.hid he
    have d : decide (v.tmod n < 0) = false := by simpa using hneg
    clear hr hv hn2 hn he hneg
    go_enter Tryz.func25, Tryz.ntmps25
    go_wp2
    go_ret
    exact ⟨by rw [E.out]; rfl, rfl⟩
end Go.Proofs.YthkodjkkcgdmfaaGreat.Mem
end
section
namespace Go.Proofs.YthkodjkkcgdmfaaGreat.Mem
open Go Go.RowKit Go.Proofs.YthkodjkkcgdmfaaGreat.Step
set_option linter.unusedVariables false
set_option linter.unusedSimpArgs false
set_option maxRecDepth 100000
/-- A slice's bytes, in blocks of G. -/
def Rd (W : World) (A : Option Addr) (n : Nat) (f : Nat → Int) (G : Nat → Prop) : Prop := ∀ k, k < n → ∃ ad, A = some ad ∧ G ad.block ∧ W.cell? (ad.add k) = some (.int .u8 (f k)) ∧ 0 ≤ f k ∧ f k < 256
theorem block_add (a : Addr) (n : Nat) : (a.add n).block = a.block := by unfold Addr.add; split <;> rfl
theorem Rd.mod {W W' : World} {A : Option Addr} {n : Nat} {f : Nat → Int} {G S : Nat → Prop} (r : Rd W A n f G) (m : Mod S W W') (hs : ∀ k, G k → ¬ S k) (hb : ∀ k, G k → k < W.heap.size) : Rd W' A n f G := fun k hk => by
  obtain ⟨ad, e, hG, hc, hv⟩ := r k hk
  exact ⟨ad, e, hG, (World.cell?_of_block (w := W) (m.block _ (by rw [block_add]; exact hb _ hG) (by rw [block_add]; exact hs _ hG))).trans hc, hv⟩
theorem Rd.below {W W' : World} {A : Option Addr} {n : Nat} {f : Nat → Int} {G : Nat → Prop} (r : Rd W A n f G) (m : Below W.heap.size W W') (hb : ∀ k, G k → k < W.heap.size) : Rd W' A n f G := r.mod (Mod.of_below m Nil) (fun _ _ h => h) hb
theorem Rd.drawn {W W' : World} {A : Option Addr} {n : Nat} {f : Nat → Int} {G : Nat → Prop} (r : Rd W A n f G) (m : ∃ k, W' = W.drewN k) : Rd W' A n f G := by obtain ⟨k, rfl⟩ := m; exact r
theorem Rd.congr {W : World} {A : Option Addr} {n : Nat} {f g : Nat → Int} {G : Nat → Prop} (r : Rd W A n f G) (h : ∀ k, k < n → f k = g k) : Rd W A n g G := fun k hk => by rw [← h k hk]; exact r k hk
theorem Rd.more {W : World} {A : Option Addr} {n : Nat} {f : Nat → Int} {G G' : Nat → Prop} (r : Rd W A n f G) (h : ∀ k, G k → G' k) : Rd W A n f G' := fun k hk => by
  obtain ⟨ad, e, hG, hc⟩ := r k hk
  exact ⟨ad, e, h _ hG, hc⟩
/-- A row of bytes. -/
def row (n : Nat) (f : Nat → Int) : Array Value := (Array.range n).map fun k => .int .u8 (f k)
theorem row_size (n : Nat) (f : Nat → Int) : (row n f).size = n := by simp [row]
theorem row_at (n : Nat) (f : Nat → Int) {k : Nat} (h : k < n) : (row n f)[k]? = some (.int .u8 (f k)) := by simp [row, h]
theorem row_set (n : Nat) (f : Nat → Int) {k : Nat} (v : Int) : (row n f).setIfInBounds k (.int .u8 v) = row n (upd f k v) := by
  apply Array.ext (by simp [row])
  intro i h1 h2
  by_cases e : k = i
  · subst e; simp [row, upd]
  · rw [Array.getElem_setIfInBounds_ne (by simpa [row] using h2) e]
    simp [row, upd, Ne.symm e]
theorem row_zero (n : Nat) : Array.replicate n (Value.int .u8 0) = row n fun _ => 0 := by
  apply Array.ext (by simp [row])
  intro i h1 h2
  simp [row]
theorem row_congr {n : Nat} {f g : Nat → Int} (h : ∀ k, k < n → f k = g k) : row n f = row n g := by
  apply Array.ext (by simp [row])
  intro i h1 h2
  simp only [row, Array.getElem_map, Array.getElem_range]
  rw [h i (by simpa [row] using h1)]
theorem rd_row {W : World} {g n : Nat} {f : Nat → Int} {G : Nat → Prop} (b : Blk W g (row n f) 5) (hG : G g) (hf : ∀ k, k < n → 0 ≤ f k ∧ f k < 256) : Rd W (some ⟨g, 0, none⟩) n f G := fun k hk => by
  refine ⟨_, rfl, hG, ?_, hf k hk⟩
  have : (⟨g, 0, none⟩ : Addr).add k = ⟨g, k, none⟩ := by unfold Addr.add; split <;> simp_all
  rw [this]
  exact (b.cell k).trans (row_at n f hk)
set_option maxHeartbeats 1000000 in
theorem same_any {W : World} {A B : Option Addr} {n ca cb : Nat} {f : Nat → Int} {G G' : Nat → Prop} (ra : Rd W A n f G) (rb : Rd W B n f G') (hn : n ≤ 1000000000000) :
    Calls Tryz.prog 42 #[.slice A n ca, .slice B n cb] W fun e W' => e = .returned (.bool true) ∧ ∃ k, W' = W.drewN k := by
  have RA := Lib.hid ra
  have RB := Lib.hid rb
  clear ra rb
  go_enter Tryz.func42, Tryz.ntmps42
  go_wp2
  go_loopw [5] (fun i w => ∃ k : Nat, k ≤ n ∧ i = .int .i64 k ∧ ∃ m, w = W.drewN m) (fun i _ => (n - intOf i).toNat)
  case atStart => exact ⟨0, Nat.zero_le _, rfl, 0, rfl⟩
  case round =>
    obtain ⟨k, hk, rfl, hm⟩ := hrel
    have HM := Lib.hid hm
    by_cases hlt : k < n
    · obtain ⟨ad, rfl, _, hc, hf1, hf2⟩ := (RA.out.drawn hm) k hlt
      obtain ⟨bd, rfl, _, hd, _⟩ := (RB.out.drawn hm) k hlt
      clear hm
      go_wp2
      go_quiet (fail)
      go_wp2
      refine ⟨⟨k + 1, by omega, by go_num, ?_⟩, by simp [intOf]; omega⟩
      obtain ⟨m, hm⟩ := HM.out
      exact ⟨m + nq, by rw [hm, World.drewN_drewN]⟩
    · clear hm
      obtain rfl : k = n := by omega
      go_wp2
      go_ret
      exact ⟨rfl, HM.out⟩
set_option maxHeartbeats 1000000 in
theorem bytes_yes {W : World} {h n : Nat} {base : Int} {mem : Nat → Int} {F : Nat → Prop} (r : Ram W h base n mem F) (addr : Int) (s : Nat) (ha : 0 ≤ addr ∧ addr < 18446744073709551616) (hs9 : (s : Int) < 9223372036854775808) (h2 : hasB base n addr s = true) :
    Calls Tryz.prog 40 #[.pointer (some ⟨h, 0, none⟩), .int .u64 addr, .int .i64 s] W fun e W' => ∃ g, e = .returned (.tuple #[.slice (some ⟨g, 0, none⟩) s s, .bool true]) ∧ Blk W' g (row s fun k => mem ((addr - base).toNat + k)) 5 ∧ W.heap.size ≤ g ∧ Below W.heap.size W W' := by
  obtain ⟨hh1, hh2, hh3⟩ := of_decide_eq_true h2
  have T2 := Lib.hid ((has_any r addr s ha hs9).mono fun e w' h => (by rw [h2] at h; exact h : e = .returned (.bool true) ∧ ∃ k, w' = W.drewN k))
  obtain ⟨n1, n2, b1, b2⟩ := r.size
  have R := Lib.hid r
  obtain ⟨ha1, ha2⟩ := ha
  have s1 : s ≤ 4194304 := by omega
  have HN := Lib.hid (show 1 * s ≤ 281474976710656 by omega)
  have HN2 := Lib.hid (show s ≤ 9223372036854775807 by omega)
  clear h2 r hs9
  go_enter Tryz.func40, Tryz.ntmps40
  go_wp2_with (first
    | (go_at_call 65; refine (T2.out).mono ?_; rintro e w1 ⟨rfl, hw⟩; have R1 := Lib.hid (R.out.drawn hw); have HW := Lib.hid (below_drawn hw); clear hw)
    | (refine Step.make (t := 66) rfl rfl rfl rfl Tryz.underlying66 mk_u8 rfl HN.out HN2.out ?_; intro g w2 b hg hb; have B1 := Lib.hid b; have HG := Lib.hid hg; have HM := Lib.hid hb; have R2 := Lib.hid (R1.out.below hb); clear b hg hb))
  go_loopw [9, 19] (fun x i w => ∃ k : Nat, k ≤ s ∧ i = .int .i64 k ∧ Blk w g (row s fun j => if j < k then mem ((addr - base).toNat + j) else 0) 5 ∧ Mod (One g) w2 w) (fun _ i _ => (s - intOf i).toNat)
  case atStart => exact ⟨0, Nat.zero_le _, rfl, by have := B1.out; rw [row_zero] at this; simpa using this, Mod.refl _ _⟩
  case round =>
    obtain ⟨k, hk, rfl, hB, hM⟩ := hrel
    have HB := Lib.hid hB
    have HM2 := Lib.hid hM
    have RR := Lib.hid (R2.out.mod hM (fun i hi e => by have := R.out.bound i hi; have := HG.out; have := HW.out.size; obtain rfl : i = g := e; omega))
    clear hB hM
    by_cases hlt : k < s
    · have T3 := Lib.hid (get RR.out (addr + k) (by omega) (by omega))
      have HI := Lib.hid (show Nat.blt k (row s fun j => if j < k then mem ((addr - base).toNat + j) else 0).size = true by rw [row_size]; exact Nat.ble_eq_true_of_le hlt)
      go_wp2_with (first
        | (go_at_call 66; refine (T3.out).mono ?_; rintro e w3 ⟨rfl, rfl⟩)
        | ((with_reducible refine Step.gate_store (t := 5) rfl ?_); refine Step.store HB.out rfl rfl rfl rfl rfl pl_u8 rfl HI.out ?_; intro w4 nb m; have NB := Lib.hid nb; have M4 := Lib.hid m; clear nb m))
      refine ⟨⟨k + 1, by omega, by go_num, ?_, HM2.out.trans M4.out⟩, by simp [intOf]; omega⟩
      have nb : Blk w4 g ((row s fun j => if j < k then mem ((addr - base).toNat + j) else 0).setIfInBounds k (.int .u8 (mem (addr + k - base).toNat))) 5 := NB.out
      rw [row_set] at nb
      refine (row_congr fun j hj => ?_) ▸ nb
      unfold upd
      by_cases e : j = k
      · subst e; rw [if_pos rfl, if_pos (by omega)]; congr 1; omega
      · rw [if_neg e]
        dsimp only
        by_cases e2 : j < k
        · rw [if_pos e2, if_pos (by omega)]
        · rw [if_neg e2, if_neg (by omega)]
    · obtain rfl : k = s := by omega
      go_wp2
      refine bodyPost_ret (results_tmp2 rfl _ _ _) rfl ⟨g, rfl, (row_congr fun j hj => if_pos hj) ▸ HB.out, Nat.le_trans HW.out.size HG.out, ?_⟩
      have b2 : Below W.heap.size W w2 := HW.out.trans (HM.out.mono HW.out.size)
      refine below_mod (Below.refl _ _) (Nat.le_refl _) ((Mod.of_below b2 (One g)).trans HM2.out) fun i _ e => ?_
      obtain rfl : i = g := e
      exact Nat.le_trans HW.out.size HG.out
/-- Bytes, filled in. -/
def fl (mem : Nat → Int) (off len : Nat) (f : Nat → Int) : Nat → Int := fun i => if off ≤ i ∧ i < off + len then f (i - off) else mem i
theorem fl_zero (mem : Nat → Int) (off : Nat) (f : Nat → Int) : fl mem off 0 f = mem := funext fun i => if_neg (by omega)
theorem fl_succ (mem : Nat → Int) (off k : Nat) (f : Nat → Int) : upd (fl mem off k f) (off + k) (f k) = fl mem off (k + 1) f := by
  funext i
  unfold upd fl
  by_cases h : i = off + k
  · subst h; rw [if_pos rfl, if_pos (by omega), Nat.add_sub_cancel_left]
  · rw [if_neg h]
    by_cases h2 : off ≤ i ∧ i < off + k
    · rw [if_pos h2, if_pos (by omega)]
    · rw [if_neg h2, if_neg (by omega)]
set_option maxHeartbeats 1000000 in
theorem fill_yes {W : World} {h n : Nat} {base : Int} {mem : Nat → Int} {F G : Nat → Prop} (r : Ram W h base n mem F) (addr : Int) {A : Option Addr} {s c : Nat} {f : Nat → Int} (rb : Rd W A s f G) (hG : ∀ k, G k → ¬ F k ∧ k < W.heap.size) (ha : 0 ≤ addr ∧ addr < 18446744073709551616) (h2 : hasB base n addr s = true) :
    Calls Tryz.prog 80 #[.pointer (some ⟨h, 0, none⟩), .int .u64 addr, .slice A s c] W fun e W' => e = .returned (.bool true) ∧ Ram W' h base n (fl mem (addr - base).toNat s f) (Grow F W W') ∧ Mod F W W' := by
  obtain ⟨hh1, hh2, hh3⟩ := of_decide_eq_true h2
  obtain ⟨n1, n2, b1, b2⟩ := r.size
  have hs9 : (s : Int) < 9223372036854775808 := by omega
  have T2 := Lib.hid ((has_any r addr s ha hs9).mono fun e w' h => (by rw [h2] at h; exact h : e = .returned (.bool true) ∧ ∃ k, w' = W.drewN k))
  have R := Lib.hid r
  have RB := Lib.hid rb
  have HG := Lib.hid hG
  obtain ⟨ha1, ha2⟩ := ha
  have s1 : s ≤ 4194304 := by omega
  clear h2 r hs9 rb hG
  go_enter Tryz.func80, Tryz.ntmps80
  go_wp2_with (first
    | (go_at_call 65; refine (T2.out).mono ?_; rintro e w1 ⟨rfl, hw⟩; have R1 := Lib.hid (R.out.drawn hw); have HW := Lib.hid (below_drawn hw); clear hw))
  go_loopw [7, 8, 17] (fun x y i W1 => ∃ k : Nat, k ≤ s ∧ i = .int .i64 k ∧ Ram W1 h base n (fl mem (addr - base).toNat k f) (Grow F W W1) ∧ Mod F W W1) (fun _ _ i _ => (s - intOf i).toNat)
  case atStart =>
    refine ⟨0, Nat.zero_le _, rfl, ?_, ?_⟩
    · rw [fl_zero]; exact R1.out.more (fun k hk => .inl hk) (Grow.bound R.out.bound HW.out.size)
    · exact Mod.of_below HW.out F
  case round =>
    obtain ⟨k, hk, rfl, hR, hM⟩ := hrel
    by_cases hlt : k < s
    · obtain ⟨ad, rfl, _, hc, hf⟩ := (RB.out.mod hM (fun i hi => (HG.out i hi).1) (fun i hi => (HG.out i hi).2)) k hlt
      have T3 := Lib.hid (put hR (addr + k) (f k) (by omega) (by omega) hf)
      have hsz := Lib.hid hM.size
      have HM := Lib.hid hM
      clear hR hM hf
      go_wp2_with (go_at_call 79; refine (T3.out).mono ?_; rintro e w2 ⟨rfl, hR, hM⟩; have HR2 := Lib.hid hR; have HM2 := Lib.hid hM; clear hR hM)
      refine ⟨⟨k + 1, by omega, by go_num, ?_, mod_grow HM.out HM2.out⟩, by simp [intOf]; omega⟩
      have := (HR2.out.grow R.out.bound hsz.out HM2.out.size)
      rw [show (addr + (k : Int) - base).toNat = (addr - base).toNat + k by omega, fl_succ] at this
      exact this
    · obtain rfl : k = s := by omega
      have HR := Lib.hid hR
      have HM := Lib.hid hM
      clear hR hM
      go_wp2
      go_ret
      exact ⟨rfl, HR.out, HM.out⟩
end Go.Proofs.YthkodjkkcgdmfaaGreat.Mem
end
section
namespace Go.Proofs.YthkodjkkcgdmfaaGreat.Mem
open Go Go.RowKit Go.Proofs.YthkodjkkcgdmfaaGreat.Step
set_option linter.unusedVariables false
set_option linter.unusedSimpArgs false
set_option maxRecDepth 100000
/-- The first k frames of a content. -/
def first (mem : Nat → Int) (k : Nat) : Nat → Int := fun i => if i < k * 4096 then mem i else 0
end Go.Proofs.YthkodjkkcgdmfaaGreat.Mem
end
section
namespace Go.Proofs.YthkodjkkcgdmfaaGreat.Mem
open Go Go.RowKit Go.Proofs.YthkodjkkcgdmfaaGreat.Step
set_option linter.unusedVariables false
set_option linter.unusedSimpArgs false
set_option maxRecDepth 100000
/-- Two memories of the call's own. -/
structure Pair (W w : World) (h1 : Nat) (b1 : Int) (n1 : Nat) (m1 : Nat → Int) (h2 : Nat) (b2 : Int) (n2 : Nat) (m2 : Nat → Int) (F1 F2 : Nat → Prop) : Prop where
  one : Ram w h1 b1 n1 m1 F1
  two : Ram w h2 b2 n2 m2 F2
  apart : ∀ k, F1 k → ¬ F2 k
  new : ∀ k, F1 k ∨ F2 k → W.heap.size ≤ k
  mod : Mod Nil W w
theorem Pair.below {W w w' : World} {h1 n1 h2 n2 : Nat} {b1 b2 : Int} {m1 m2 : Nat → Int} {F1 F2 : Nat → Prop} (p : Pair W w h1 b1 n1 m1 h2 b2 n2 m2 F1 F2) (b : Below w.heap.size w w') : Pair W w' h1 b1 n1 m1 h2 b2 n2 m2 F1 F2 :=
  ⟨p.one.below b, p.two.below b, p.apart, p.new, p.mod.trans (Mod.of_below b Nil)⟩
theorem Pair.drawn {W w w' : World} {h1 n1 h2 n2 : Nat} {b1 b2 : Int} {m1 m2 : Nat → Int} {F1 F2 : Nat → Prop} (p : Pair W w h1 b1 n1 m1 h2 b2 n2 m2 F1 F2) (b : ∃ k, w' = w.drewN k) : Pair W w' h1 b1 n1 m1 h2 b2 n2 m2 F1 F2 := p.below (below_drawn b)
/-- One memory of the call's own. -/
structure Solo (W w : World) (h : Nat) (b : Int) (n : Nat) (mem : Nat → Int) (F : Nat → Prop) : Prop where
  ram : Ram w h b n mem F
  new : ∀ k, F k → W.heap.size ≤ k
  mod : Mod Nil W w
theorem Solo.made {W w w' : World} {h n : Nat} {b : Int} {mem : Nat → Int} (m0 : Mod Nil W w) (r : Ram w' h b n mem (Grow Nil w w')) (m : Mod Nil w w') : Solo W w' h b n mem (Grow Nil w w') :=
  ⟨r, fun k hk => hk.elim (fun h => h.elim) fun h => Nat.le_trans m0.size h.1, m0.trans m⟩
theorem Solo.below {W w w' : World} {h n : Nat} {b : Int} {mem : Nat → Int} {F : Nat → Prop} (s : Solo W w h b n mem F) (m : Below w.heap.size w w') : Solo W w' h b n mem F := ⟨s.ram.below m, s.new, s.mod.trans (Mod.of_below m Nil)⟩
theorem Solo.drawn {W w w' : World} {h n : Nat} {b : Int} {mem : Nat → Int} {F : Nat → Prop} (s : Solo W w h b n mem F) (m : ∃ k, w' = w.drewN k) : Solo W w' h b n mem F := s.below (below_drawn m)
theorem Solo.step {W w w' : World} {h n : Nat} {b : Int} {mem mem' : Nat → Int} {F : Nat → Prop} (s : Solo W w h b n mem F) (r : Ram w' h b n mem' (Grow F w w')) (m : Mod F w w') : Solo W w' h b n mem' (Grow F w w') :=
  ⟨r, fun k hk => hk.elim (s.new k) fun h => Nat.le_trans s.mod.size h.1, s.mod.trans_new m fun i hi h => by have := s.new i h; omega⟩
/-- Something newer is turned. -/
theorem Solo.other {W w w' : World} {h n : Nat} {b : Int} {mem : Nat → Int} {F S : Nat → Prop} (s : Solo W w h b n mem F) (m : Mod S w w') (hs : ∀ k, F k → ¬ S k) (hn : ∀ k, S k → W.heap.size ≤ k) : Solo W w' h b n mem F :=
  ⟨s.ram.mod m hs, s.new, s.mod.trans_new m fun i hi h => by have := hn i h; omega⟩
theorem Solo.out {W w : World} {h n : Nat} {b : Int} {mem : Nat → Int} {F : Nat → Prop} (s : Solo W w h b n mem F) : Below W.heap.size W w := s.mod.below
theorem Pair.made {W w w' : World} {h1 n1 h2 n2 : Nat} {b1 b2 : Int} {m1 m2 : Nat → Int} {F : Nat → Prop} (s : Solo W w h1 b1 n1 m1 F) (r : Ram w' h2 b2 n2 m2 (Grow Nil w w')) (b : Below w.heap.size w w') : Pair W w' h1 b1 n1 m1 h2 b2 n2 m2 F (Grow Nil w w') :=
  ⟨s.ram.below b, r, fun k h1 h2 => by
      have := s.ram.bound k h1
      rcases h2 with h2 | h2
      · exact h2
      · omega, fun k hk => by
      rcases hk with h | (h | h)
      · exact s.new k h
      · exact h.elim
      · exact Nat.le_trans s.mod.size h.1, s.mod.trans (Mod.of_below b Nil)⟩
theorem Pair.out {W w : World} {h1 n1 h2 n2 : Nat} {b1 b2 : Int} {m1 m2 : Nat → Int} {F1 F2 : Nat → Prop} (p : Pair W w h1 b1 n1 m1 h2 b2 n2 m2 F1 F2) : Below W.heap.size W w := p.mod.below
theorem Pair.step1 {W w w' : World} {h1 n1 h2 n2 : Nat} {b1 b2 : Int} {m1 m2 m1' : Nat → Int} {F1 F2 : Nat → Prop} (p : Pair W w h1 b1 n1 m1 h2 b2 n2 m2 F1 F2) (r : Ram w' h1 b1 n1 m1' (Grow F1 w w')) (m : Mod F1 w w') : Pair W w' h1 b1 n1 m1' h2 b2 n2 m2 (Grow F1 w w') F2 :=
  ⟨r, p.two.mod m (fun k h2 h1 => p.apart k h1 h2), fun k h1 h2 => by
      rcases h1 with h1 | h1
      · exact p.apart k h1 h2
      · have := p.two.bound k h2; omega, fun k hk => by
      rcases hk with (h | h) | h
      · exact p.new k (.inl h)
      · exact Nat.le_trans p.mod.size h.1
      · exact p.new k (.inr h), p.mod.trans_new m fun i hi h => by have := p.new i (.inl h); omega⟩
/-- The bytes of a memory, their number told as a number of the program. -/
theorem bytes_z {W : World} {h n : Nat} {base : Int} {mem : Nat → Int} {F : Nat → Prop} (r : Ram W h base n mem F) (addr z : Int) (s : Nat) (hz : z = s) (ha : 0 ≤ addr ∧ addr < 18446744073709551616) (hs9 : (s : Int) < 9223372036854775808) (h2 : hasB base n addr s = true) :
    Calls Tryz.prog 40 #[.pointer (some ⟨h, 0, none⟩), .int .u64 addr, .int .i64 z] W fun e W' => ∃ g, e = .returned (.tuple #[.slice (some ⟨g, 0, none⟩) s s, .bool true]) ∧ Blk W' g (row s fun k => mem ((addr - base).toNat + k)) 5 ∧ W.heap.size ≤ g ∧ Below W.heap.size W W' := by
  subst hz; exact bytes_yes r addr s ha hs9 h2
theorem make_u8 (n : Nat) (hn : n ≤ 100000000000) (w : World) : (Instr.makeSlice 66 (.int .i64 n) (.int .i64 n)).run Tryz.prog w = .ok (.slice (some ⟨w.heap.size, 0, none⟩) n n) (w.alloc (.cells (row n fun _ => 0) 5 (0, 0))) := by
  have h := mk_u8
  cases hi' : Tryz.prog.info? 5 with
  | none => rw [hi'] at h; cases h
  | some i =>
    rw [hi'] at h
    simp only [Option.map_some, Option.some.injEq, Prod.mk.injEq] at h
    obtain ⟨h1, h2, h3⟩ := h
    have hr := run_make (P := Tryz.prog) w 66 5 i _ Tryz.underlying66 hi' h3 .i64 .i64 n n (by omega) (Int.le_refl _) (by rw [h2]; omega) (by omega)
    simp only [Int.toNat_natCast, h1, Nat.mul_one, Value.cells, madeCells_one, row_zero] at hr
    exact hr
end Go.Proofs.YthkodjkkcgdmfaaGreat.Mem
end
section
namespace Go.Proofs.YthkodjkkcgdmfaaGreat.Ref
open Go Go.RowKit Go.Proofs.YthkodjkkcgdmfaaGreat.Step Go.Proofs.YthkodjkkcgdmfaaGreat.Mem
set_option linter.unusedVariables false
set_option linter.unusedSimpArgs false
set_option maxRecDepth 100000
def sl : Option (Nat × Nat) → Value
  | none => .slice none 0 0
  | some (g, c) => .slice (some ⟨g, 0, none⟩) 4096 c
theorem eql_nil (w : World) : (binOp .eql 66 (.slice none 0 0) (.slice none 0 0)).run Tryz.prog w = .ok (.bool true) w := by
  have := run_equal_slice_nil (P := Tryz.prog) w 66 _ none 0 0 Tryz.underlying66
  simp [binOp, this, Result.andThen]
theorem eql_some (w : World) (ad : Addr) (n c : Nat) : (binOp .eql 66 (.slice (some ad) n c) (.slice none 0 0)).run Tryz.prog w = .ok (.bool false) w := by
  have := run_equal_slice_nil (P := Tryz.prog) w 66 _ (some ad) n c Tryz.underlying66
  simp [binOp, this, Result.andThen]
set_option maxHeartbeats 1000000 in
theorem put_old (W : World) (h fb n g c : Nat) (base addr v : Int) (cs bs : Array Value) (k j : Nat) (hb : 0 ≤ base) (ha : base ≤ addr) (ha2 : addr < 18446744073709551616) (hk : (addr - base) / 4096 = (k : Int)) (hj : (addr - base) % 4096 = (j : Int)) (hjn : j < 4096) (hkn : k < n) (hn : n ≤ 1024)
    (b0 : Step.Blk W h #[.int .u64 base, .int .i64 n, .slice (some ⟨fb, 0, none⟩) n n] 88) (b1 : Step.Blk W fb cs 66) (ck : cs[k]? = some (.slice (some ⟨g, 0, none⟩) 4096 c)) (b2 : Step.Blk W g bs 5) (hbs : 4096 ≤ bs.size) :
    Calls Tryz.prog 49 #[.pointer (some ⟨h, 0, none⟩), .int .u64 addr, .int .u8 v] W fun e W' => e = .returned (.tuple #[]) ∧ Step.Blk W' g (bs.setIfInBounds j (.int .u8 v)) 5 ∧ Step.Mod (Step.One g) W W' := by
  have hs : IntKind.u64.wrap (addr - base) = addr - base := IntWalk.u64_in _ (by omega)
  have hu35 := eql_nil
  have hu36 := eql_some
  have c0 := b0.cell 0
  have c1 := b0.cell 2
  have ck' := (b1.cell k).trans ck
  have B2 := Lib.hid b2
  have HJ2 := Lib.hid (show Nat.blt j bs.size = true from Nat.ble_eq_true_of_le (by omega))
  clear hbs b0 b1 ck b2
  simp only [List.getElem?_toArray, List.getElem?_cons_zero, List.getElem?_cons_succ] at c0 c1
  go_enter Tryz.func49, Tryz.ntmps49
  go_wp2_with (first
    | ((with_reducible refine Step.gate_store (t := 5) rfl ?_); refine Step.store B2.out rfl rfl rfl rfl rfl pl_u8 rfl HJ2.out ?_; intro w1 n2 m; have N2 := Lib.hid n2; have M := Lib.hid m; clear n2 m))
  go_end0
  exact ⟨rfl, N2.out, M.out⟩
theorem make_4096 (w : World) : (Instr.makeSlice 66 (.int .i64 4096) (.int .i64 4096)).run Tryz.prog w = .ok (.slice (some ⟨w.heap.size, 0, none⟩) 4096 4096) (w.alloc (.cells (row 4096 fun _ => 0) 5 (0, 0))) := make_u8 4096 (by omega) w
set_option maxHeartbeats 1000000 in
theorem put_new (W : World) (h fb n : Nat) (base addr v : Int) (cs : Array Value) (k j : Nat) (hb : 0 ≤ base) (ha : base ≤ addr) (ha2 : addr < 18446744073709551616) (hk : (addr - base) / 4096 = (k : Int)) (hj : (addr - base) % 4096 = (j : Int)) (hjn : j < 4096) (hkn : k < n) (hn : n ≤ 1024)
    (b0 : Step.Blk W h #[.int .u64 base, .int .i64 n, .slice (some ⟨fb, 0, none⟩) n n] 88) (b1 : Step.Blk W fb cs 66) (hcs : cs.size = n) (hne : h ≠ fb) (ck : cs[k]? = some (.slice none 0 0)) :
    Calls Tryz.prog 49 #[.pointer (some ⟨h, 0, none⟩), .int .u64 addr, .int .u8 v] W fun e W' => e = .returned (.tuple #[]) ∧ ∃ g, Step.Blk W' g (row 4096 (upd (fun _ => 0) j v)) 5 ∧ Step.Blk W' fb (cs.setIfInBounds k (.slice (some ⟨g, 0, none⟩) 4096 4096)) 66 ∧ W.heap.size ≤ g ∧ Step.Mod (Step.One fb) W W' := by
  have hs : IntKind.u64.wrap (addr - base) = addr - base := IntWalk.u64_in _ (by omega)
  have hu35 := eql_nil
  have hu36 := eql_some
  have c0 := b0.cell 0
  have c1 := b0.cell 2
  have ck' := (b1.cell k).trans ck
  have lt0 := b0.lt
  have lt1 := b1.lt
  have B0 := Lib.hid b0
  have B1 := Lib.hid b1
  have HK2 := Lib.hid (show Nat.blt k cs.size = true by rw [hcs]; exact Nat.ble_eq_true_of_le hkn)
  have HMK := make_4096
  have fz : ∀ o, ((W.alloc o).drew).frozen? ⟨fb, k, none⟩ = false := fun o => ((b1.below (alloc_below W o)).frozen k)
  have hne2 : (⟨h, 2, none⟩ : Addr) ≠ ⟨fb, k, none⟩ := fun e => hne (congrArg Addr.block e)
  have hne3 : ¬ h = fb := hne
  have fz3 : ∀ o, (W.alloc o).frozen? ⟨fb, k, none⟩ = false := fun o => ((b1.below (alloc_below W o)).frozen k)
  have hkeep : ∀ v o, (((W.setCell ⟨fb, k, none⟩ v).alloc o).drew).cell? ⟨h, 2, none⟩ = some (.slice (some ⟨fb, 0, none⟩) n n) := fun v o => ((((b0.one (setCell_mod W fb k v) hne).below (alloc_below _ o)).cell 2).trans rfl : _)
  clear b0 b1 ck hcs
  simp only [List.getElem?_toArray, List.getElem?_cons_zero, List.getElem?_cons_succ] at c0 c1
  go_enter Tryz.func49, Tryz.ntmps49
  go_wp2
  go_region_held3 (fun w' => w'.cell? ⟨h, 2, none⟩ = some (.slice (some ⟨fb, 0, none⟩) n n)) (first | go_keep | exact hkeep _ _) (fail)
  rename_i hHeld
  have hsz : (W.setCell ⟨fb, k, none⟩ (.slice (some ⟨W.heap.size, 0, none⟩) 4096 4096)).heap.size = W.heap.size := by simp [World.setCell]
  have al : Below (W.setCell ⟨fb, k, none⟩ (.slice (some ⟨W.heap.size, 0, none⟩) 4096 4096)).heap.size (W.setCell ⟨fb, k, none⟩ (.slice (some ⟨W.heap.size, 0, none⟩) 4096 4096)) ((W.setCell ⟨fb, k, none⟩ (.slice (some ⟨W.heap.size, 0, none⟩) 4096 4096)).alloc (.cells (row 4096 fun _ => 0) 5 (0, 0))).drew := (alloc_below _ _).drew
  obtain ⟨W2, hW2⟩ : ∃ W2, W2 = ((W.setCell ⟨fb, k, none⟩ (.slice (some ⟨W.heap.size, 0, none⟩) 4096 4096)).alloc (.cells (row 4096 fun _ => 0) 5 (0, 0))).drew := ⟨_, rfl⟩
  have m1 : Step.Mod (Step.One fb) W W2 := by rw [hW2]; exact (setCell_mod W fb k _).trans (Mod.of_below al _)
  have bf : Step.Blk W2 fb (cs.setIfInBounds k (.slice (some ⟨W.heap.size, 0, none⟩) 4096 4096)) 66 := by rw [hW2]; exact (setCell_out W fb k _ cs _ B1.out).below al
  have bg : Step.Blk W2 W.heap.size (row 4096 fun _ => 0) 5 := by
    have := (alloc_out (W.setCell ⟨fb, k, none⟩ (.slice (some ⟨W.heap.size, 0, none⟩) 4096 4096)) (row 4096 fun _ => 0) 5)
    rw [hsz] at this
    rw [hW2]; exact ⟨this.out⟩
  have d2 := ((B0.out.one m1 hne).cell 2)
  have dk := bf.cell k
  rw [Array.getElem?_setIfInBounds_self_of_lt (Nat.le_of_ble_eq_true HK2.out)] at dk
  simp only [List.getElem?_toArray, List.getElem?_cons_zero, List.getElem?_cons_succ] at d2
  have M1 := Lib.hid m1
  have BF := Lib.hid bf
  have BG := Lib.hid bg
  have HJ := Lib.hid (show Nat.blt j (row 4096 fun _ => 0).size = true by rw [row_size]; exact Nat.ble_eq_true_of_le hjn)
  have lf := Lib.hid lt1
  rw [← hW2]
  clear hW2 m1 bf bg al hsz hHeld hne2 hne3 c0 c1 ck' HMK fz fz3 hkeep
  go_wp2_with (first
    | ((with_reducible refine Step.gate_store (t := 5) rfl ?_); refine Step.store BG.out rfl rfl rfl rfl rfl pl_u8 rfl HJ.out ?_; intro w1 n2 m; have N2 := Lib.hid n2; have M := Lib.hid m; clear n2 m))
  go_end0
  have lf' := lf.out
  refine ⟨rfl, W.heap.size, ?_, BF.out.one M.out (by omega), Nat.le_refl _, M1.out.trans_new M.out fun i hi e => by obtain rfl : i = W.heap.size := e; omega⟩
  have nb : Step.Blk w1 W.heap.size ((row 4096 fun _ => 0).setIfInBounds j (.int .u8 v)) 5 := N2.out
  rwa [row_set] at nb
end Go.Proofs.YthkodjkkcgdmfaaGreat.Ref
end
