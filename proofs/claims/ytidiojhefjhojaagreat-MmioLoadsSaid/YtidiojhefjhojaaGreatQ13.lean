/- Parts of the walks and laws for the claim: Step2, Mio, FinE; no conditions beyond the theorems' own. -/
import Derived.Test.YtidiojhefjhojaaGreatQ2
import Derived.Test.YtidiojhefjhojaaGreatQ3
import Derived.Test.YtidiojhefjhojaaGreatQ12
section
namespace Go.Proofs.YtidiojhefjhojaaGreat.Hart
open Go Go.RowKit Go.Proofs.YtidiojhefjhojaaGreat.Step Go.Proofs.YtidiojhefjhojaaGreat.Enc Go.Proofs.YtidiojhefjhojaaGreat.Kn
open Go.Proofs.YtidiojhefjhojaaGreat.Mem (Ram Grow hasB wholeB num wr)
set_option linter.unusedVariables false
set_option linter.unusedSimpArgs false
set_option maxRecDepth 100000
set_option maxHeartbeats 4000000 in
theorem do_first {W : World} {b gc gm : Nat} {tv km : Value} {root vmid : Int} (hx : Blk W b #[.pointer (some ⟨gc, 0, none⟩)] 51) (hb : Blk W gc (ccg gm tv root vmid 0 0 km) TC) (hne : b ≠ gc) :
    Calls Tryz.prog 40 #[.pointer (some ⟨gc, 4, none⟩), .func (.func 41) #[] #[.pointer (some ⟨b, 0, none⟩)]] W fun e w' => e = .returned (.tuple #[]) ∧ ∃ r, W.heap.size ≤ r ∧ Blk w' gc (ccg gm tv root vmid 1 0 (.map (some r))) TC ∧ Mod (One gc) W w' ∧ w'.heap[r]? = some (.map kindsE 20) := by
  have hnot := fcall_not
  have T0 := Lib.hid (doSlow hx hb hne)
  have TD := Lib.hid (isDone hb false rfl)
  clear hx hb hne
  go_enter Tryz.func40, Tryz.ntmps40
  go_wp2_with (first
    | (go_at_call 69; (with_reducible refine (TD.out).mono ?_); rintro e w' ⟨rfl, rfl⟩)
    | (go_at_call 70; (with_reducible refine (T0.out).mono ?_); rintro e w' ⟨rfl, hq⟩; have HQ := Lib.hid hq; clear hq))
  all_goals (first | go_ret | go_end0 | refine bodyPost_ret (results_none rfl _ _ _) rfl ?_)
  exact ⟨rfl, HQ.out⟩
set_option maxHeartbeats 4000000 in
theorem do_more {W : World} {b gc gm : Nat} {tv km : Value} {root vmid : Int} (hb : Blk W gc (ccg gm tv root vmid 1 0 km) TC) :
    Calls Tryz.prog 40 #[.pointer (some ⟨gc, 4, none⟩), .func (.func 41) #[] #[.pointer (some ⟨b, 0, none⟩)]] W fun e w' => e = .returned (.tuple #[]) ∧ w' = W := by
  have hnot := fcall_not
  have TD := Lib.hid (isDone hb true rfl)
  clear hb
  go_enter Tryz.func40, Tryz.ntmps40
  go_wp2_with (go_at_call 69; (with_reducible refine (TD.out).mono ?_); rintro e w' ⟨rfl, rfl⟩)
  all_goals (first | go_ret | go_end0 | refine bodyPost_ret (results_none rfl _ _ _) rfl ?_)
  exact ⟨rfl, rfl⟩
/-- A step at its beginning. -/
def newS (gc : Nat) (now : Int) (h : Hrt) : Stp := { gc := gc, was := h, h := h, dry := false, now := now, k := 0, fn := 0, rd := 0, rs1 := 0, rs2 := 0, imm := 0, sz := 0, sg := false, long := 0, bits := 0, ek := 0, ea := 0, eva := 0, egpa := 0, ewalk := false, ewrote := false }
def zS : Stp := newS 0 0 zh
theorem zero_step : (Tryz.prog.info? 105).bind (·.zero) = some (.agg ((sc zS).setIfInBounds 0 (.pointer none))) := by kernel_rfl
theorem lays_was (s : Stp) (h' : Hrt) : lays (sc s) 3 (hc h').toList = sc { s with was := h' } := by
  refine Array.toList_inj.1 ((lays_list _ _ _ (Nat.le_of_ble_eq_true rfl)).trans rfl)
theorem fold_lays (off : Nat) : ∀ (vs : List Value) (k : Nat) (cs : Array Value), (vs.zipIdx k).foldl (fun cs (c, j) => cs.setIfInBounds (off + j) c) cs = lays cs (off + k) vs
  | [], _, _ => rfl
  | v :: r, k, cs => by
    rw [List.zipIdx_cons, List.foldl_cons]
    exact fold_lays off r (k + 1) _
theorem fill_at {place : Nat → Option (Nat × Nat)} {cells : Array Value} {i off size : Nat} {v : Value} {rest : List (Nat × Value)} (hp : place i = some (off, size)) (hs : v.cells.size = size) (hle : off + size ≤ cells.size) :
    Instr.fill place cells ((i, v) :: rest) = Instr.fill place (lays cells off v.cells.toList) rest := by
  subst hs
  have e : v.cells.zipIdx.foldl (fun cs (c, j) => cs.setIfInBounds (off + j) c) cells = lays cells off v.cells.toList := by
    rw [← Array.foldl_toList, Array.toList_zipIdx]
    exact fold_lays off _ 0 _
  simp only [Instr.fill, hp]
  rw [if_neg (by simp; omega), e]
def placesS : Array (Nat × Nat) := #[(0, 1), (1, 1), (2, 1), (3, 49), (52, 49), (101, 8), (109, 1), (110, 1), (111, 6)]
theorem fill_new (gc : Nat) (now : Int) (h : Hrt) : Instr.fill (placesS[·]?) ((sc zS).setIfInBounds 0 (.pointer none)) [(0, .pointer (some ⟨gc, 0, none⟩)), (2, .int .u64 now), (3, .agg (hc h)), (4, .agg (hc h))] = some (sc (newS gc now h)) := by
  rw [fill_at (off := 0) (size := 1) rfl rfl (Nat.le_of_ble_eq_true rfl)]
  rw [show lays ((sc zS).setIfInBounds 0 (.pointer none)) 0 (Value.pointer (some ⟨gc, 0, none⟩)).cells.toList = sc (newS gc 0 zh) from rfl]
  rw [fill_at (off := 2) (size := 1) rfl rfl (Nat.le_of_ble_eq_true rfl)]
  rw [show lays (sc (newS gc 0 zh)) 2 (Value.int .u64 now).cells.toList = sc (newS gc now zh) from rfl]
  rw [fill_at (off := 3) (size := 49) rfl rfl (Nat.le_of_ble_eq_true rfl)]
  rw [show (Value.agg (hc h)).cells = hc h from rfl, lays_was]
  rw [fill_at (off := 52) (size := 49) rfl rfl (Nat.le_of_ble_eq_true rfl)]
  rw [show (Value.agg (hc h)).cells = hc h from rfl, lays_h]
  rfl
theorem places_run (W : World) : ∃ fs, Tryz.prog.underlying 105 = some (.struct fs) ∧ (fs.mapM fun f => do pure (f.offset, ← sizeOf f.type) : Sem (Array (Nat × Nat))).run Tryz.prog W = .ok placesS W := by
  refine ⟨_, Tryz.underlying105, ?_⟩
  unfold placesS
  first | (go_simp; done) | (go_simp; rfl)
theorem run_build {P : Program} {t : TypeId} {fs : Array Field} {places : Array (Nat × Nat)} {z cells : Array Value} {parts : Array (Nat × Value)} {W : World} (hu : P.underlying t = some (.struct fs)) (hz : (P.info? t).bind (·.zero) = some (.agg z)) (hp : (fs.mapM fun f => do pure (f.offset, ← sizeOf f.type) : Sem (Array (Nat × Nat))).run P W = .ok places W)
    (hf : Instr.fill (places[·]?) z parts.toList = some cells) : (Instr.build t parts).run P W = .ok (.agg cells) W := by
  have hz' : (zeroValue t).run P W = .ok (.agg z) W := by
    cases hi : P.info? t with
    | none => rw [hi] at hz; cases hz
    | some i =>
      rw [hi] at hz
      have e : i.zero = some (.agg z) := hz
      simp [zeroValue, typeInfo, hi, e]
  unfold Instr.build
  simp only [Sem.run_bind, hz', Result.andThen_ok, run_underlying hu W, hp]
  rw [show (Value.agg z).cells = z from rfl, hf]
  rfl
theorem build_new {a : Act} {o : Oper} {x0 x2 x3 x4 : Operand} {gc : Nat} {now : Int} {h : Hrt} (ho : o.op = .build 105 #[(0, x0), (2, x2), (3, x3), (4, x4)]) (h0 : a.eval x0 = .pointer (some ⟨gc, 0, none⟩)) (h2 : a.eval x2 = .int .u64 now) (h3 : a.eval x3 = .agg (hc h)) (h4 : a.eval x4 = .agg (hc h)) (W : World) :
    (execOp a.eval o).run Tryz.prog W = .ok (.value (.agg (sc (newS gc now h)))) W := by
  obtain ⟨fs, hu, hp⟩ := places_run W
  have hb := run_build (P := Tryz.prog) (t := 105) (parts := #[(0, .pointer (some ⟨gc, 0, none⟩)), (2, .int .u64 now), (3, .agg (hc h)), (4, .agg (hc h))]) hu zero_step hp (fill_new gc now h)
  simp only [execOp, ho, List.map_toArray, List.map_cons, List.map_nil, h0, h2, h3, h4, Sem.run_bind, hb, Result.andThen_ok, Sem.run_pure]
theorem gate_buildS {P : Program} {ops : Array Oper} {rest : List Oper} {o : Oper} {a : Act} {W : World} {Q : Exit → Act → World → Prop} {t : TypeId} {x : Array (Nat × Operand)} (_ : o.op = .build t x) (h : wpList P ops Q (o :: rest) a W) : wpList P ops Q (o :: rest) a W := h
theorem heap_below {w w' : World} {r : Nat} {x : Obj} (h : w.heap[r]? = some x) (hb : Below w.heap.size w w') : w'.heap[r]? = some x := (hb.block r (Array.getElem?_eq_some_iff.1 h).1).trans h
theorem heap_mod {w w' : World} {r : Nat} {x : Obj} {S : Nat → Prop} (h : w.heap[r]? = some x) (m : Mod S w w') (hs : ¬ S r) : w'.heap[r]? = some x := (m.block r (Array.getElem?_eq_some_iff.1 h).1 hs).trans h
set_option maxHeartbeats 8000000 in
theorem begin_first {W : World} {gc gm : Nat} {tv km : Value} {root vmid : Int} (hb : Blk W gc (ccg gm tv root vmid 0 0 km) TC) (h : Hrt) (hf : Fit h) (now : Int) :
    Calls Tryz.prog 27 #[.pointer (some ⟨gc, 0, none⟩), .agg (hc h), .int .u64 now] W fun e w' => ∃ gs, e = .returned (.pointer (some ⟨gs, 0, none⟩)) ∧ W.heap.size ≤ gs ∧ Blk w' gs (sc (newS gc now (ord h))) TS ∧ ∃ r, W.heap.size ≤ r ∧ Blk w' gc (ccg gm tv root vmid 1 0 (.map (some r))) TC ∧ Mod (One gc) W w' ∧ w'.heap[r]? = some (.map kindsE 20) := by
  have TO := Lib.hid (order_any h hf)
  have HC := Lib.hid hb
  have HLT := Lib.hid hb.lt
  clear hb hf
  generalize ord h = h2 at *
  go_enter Tryz.func27, Tryz.ntmps27
  go_wp2_with (first
    | ((with_reducible refine Step.gate_box (t := 51) rfl ?_); refine Step.fresh (cs := #[.pointer (some ⟨gc, 0, none⟩)]) (T := 51) rfl ?hr ?_; (case hr => first | (go_simp; done) | (go_simp; rfl)); intro g3 w1 b hg hb; have HX := Lib.hid b; have HXG := Lib.hid hg; have HM := Lib.hid (Mod.of_below hb (One gc)); replace HC := Lib.hid (HC.out.below hb); clear b hb hg)
    | ((with_reducible refine Step.gate_box (t := 27) rfl ?_); refine Step.fresh (cs := hc h) (T := 27) rfl ?hr2 ?_; (case hr2 => first | (go_simp; done) | (go_simp; rfl)); intro g4 w1 b hg hb; have HH := Lib.hid b; have HG4 := Lib.hid (show W.heap.size ≤ g4 from Nat.le_trans HM.out.size hg); have HHG := Lib.hid (show g3 ≠ g4 from fun e => by have := HX.out.lt; omega); have HHC := Lib.hid (show g4 ≠ gc from fun e => by have := HC.out.lt; omega); replace HX := Lib.hid (HX.out.below hb); replace HM := Lib.hid (HM.out.trans (Mod.of_below hb _)); replace HC := Lib.hid (HC.out.below hb); clear b hb hg)
    | ((with_reducible refine Step.gate_load (t := 51) rfl ?_); refine Step.load (v := .pointer (some ⟨gc, 0, none⟩)) HX.out rfl rfl rfl pl_pc rfl ?_)
    | ((with_reducible refine Step.gate_load (t := 27) rfl ?_); refine Step.loadAll HH.out rfl rfl rfl Tryz.underlying27 rfl (size_hart _) ?_)
    | ((with_reducible refine Step.gate_store (t := 27) rfl ?_); refine Step.storeAll HH.out rfl rfl rfl rfl rfl (size_hart _) rfl (hc_all _) ?_; intro w3 nb m; replace HH := Lib.hid nb; replace HX := Lib.hid (HX.out.one m HHG.out); replace HC := Lib.hid (HC.out.one m HHC.out.symm); replace HM := Lib.hid (HM.out.trans_new m fun k hk e => by have e' : k = g4 := e; exact absurd hk (by have := HG4.out; omega)); replace HK := Lib.hid (heap_mod HK.out m HRG.out); clear nb m)
    | (go_at_call 43; (with_reducible refine (TO.out _).mono ?_); rintro e w' ⟨rfl, hb⟩; replace HX := Lib.hid (HX.out.below hb); replace HH := Lib.hid (HH.out.below hb); replace HM := Lib.hid (HM.out.trans (Mod.of_below hb _)); replace HC := Lib.hid (HC.out.below hb); replace HK := Lib.hid (heap_below HK.out hb); clear hb)
    | ((with_reducible refine gate_buildS (t := 105) rfl ?_); refine Step.value (v := .agg (sc (newS gc now h2))) rfl (build_new rfl rfl rfl rfl rfl _) ?_)
    | ((with_reducible refine Step.gate_box (t := 105) rfl ?_); refine Step.fresh (cs := sc (newS gc now h2)) (T := 105) rfl ?hr ?_; (case hr => first | (go_simp; done) | (go_simp; rfl)); intro g9 w1 b hg hb; have HG := Lib.hid (Nat.le_trans HM.out.size hg); replace HK := Lib.hid (heap_below HK.out hb); replace HM := Lib.hid (HM.out.trans (Mod.of_below hb _)); replace HC := Lib.hid (HC.out.below hb); have HS := Lib.hid b; clear b hb hg)
    | (go_at_call 40; (with_reducible refine (do_first HX.out HC.out (by have := HXG.out; have := HLT.out; omega)).mono ?_); rintro e w' ⟨rfl, r, hr, nb, m, hk⟩; have HR := Lib.hid (Nat.le_trans HM.out.size hr); have HK := Lib.hid hk; have HRG := Lib.hid (show ¬ One g4 r from fun e => by have e' : r = g4 := e; have := HH.out.lt; omega); replace HC := Lib.hid nb; replace HX := Lib.hid (HX.out.one m (by have := HXG.out; have := HLT.out; omega)); replace HH := Lib.hid (HH.out.one m HHC.out); replace HM := Lib.hid (HM.out.trans m); clear hr nb m hk))
  go_ret
  exact ⟨g9, rfl, HG.out, HS.out, r, HR.out, HC.out, HM.out, HK.out⟩
set_option maxHeartbeats 8000000 in
theorem begin_more {W : World} {gc gm : Nat} {tv km : Value} {root vmid : Int} (hb : Blk W gc (ccg gm tv root vmid 1 0 km) TC) (h : Hrt) (hf : Fit h) (now : Int) :
    Calls Tryz.prog 27 #[.pointer (some ⟨gc, 0, none⟩), .agg (hc h), .int .u64 now] W fun e w' => ∃ gs, e = .returned (.pointer (some ⟨gs, 0, none⟩)) ∧ W.heap.size ≤ gs ∧ Blk w' gs (sc (newS gc now (ord h))) TS ∧ Blk w' gc (ccg gm tv root vmid 1 0 km) TC ∧ Mod (One gc) W w' := by
  have TO := Lib.hid (order_any h hf)
  have HC := Lib.hid hb
  have HLT := Lib.hid hb.lt
  clear hb hf
  generalize ord h = h2 at *
  go_enter Tryz.func27, Tryz.ntmps27
  go_wp2_with (first
    | ((with_reducible refine Step.gate_box (t := 51) rfl ?_); refine Step.fresh (cs := #[.pointer (some ⟨gc, 0, none⟩)]) (T := 51) rfl ?hr ?_; (case hr => first | (go_simp; done) | (go_simp; rfl)); intro g3 w1 b hg hb; have HX := Lib.hid b; have HXG := Lib.hid hg; have HM := Lib.hid (Mod.of_below hb (One gc)); replace HC := Lib.hid (HC.out.below hb); clear b hb hg)
    | ((with_reducible refine Step.gate_box (t := 27) rfl ?_); refine Step.fresh (cs := hc h) (T := 27) rfl ?hr2 ?_; (case hr2 => first | (go_simp; done) | (go_simp; rfl)); intro g4 w1 b hg hb; have HH := Lib.hid b; have HG4 := Lib.hid (show W.heap.size ≤ g4 from Nat.le_trans HM.out.size hg); have HHG := Lib.hid (show g3 ≠ g4 from fun e => by have := HX.out.lt; omega); have HHC := Lib.hid (show g4 ≠ gc from fun e => by have := HC.out.lt; omega); replace HX := Lib.hid (HX.out.below hb); replace HM := Lib.hid (HM.out.trans (Mod.of_below hb _)); replace HC := Lib.hid (HC.out.below hb); clear b hb hg)
    | ((with_reducible refine Step.gate_load (t := 51) rfl ?_); refine Step.load (v := .pointer (some ⟨gc, 0, none⟩)) HX.out rfl rfl rfl pl_pc rfl ?_)
    | ((with_reducible refine Step.gate_load (t := 27) rfl ?_); refine Step.loadAll HH.out rfl rfl rfl Tryz.underlying27 rfl (size_hart _) ?_)
    | ((with_reducible refine Step.gate_store (t := 27) rfl ?_); refine Step.storeAll HH.out rfl rfl rfl rfl rfl (size_hart _) rfl (hc_all _) ?_; intro w3 nb m; replace HH := Lib.hid nb; replace HX := Lib.hid (HX.out.one m HHG.out); replace HC := Lib.hid (HC.out.one m HHC.out.symm); replace HM := Lib.hid (HM.out.trans_new m fun k hk e => by have e' : k = g4 := e; exact absurd hk (by have := HG4.out; omega)); clear nb m)
    | (go_at_call 43; (with_reducible refine (TO.out _).mono ?_); rintro e w' ⟨rfl, hb⟩; replace HX := Lib.hid (HX.out.below hb); replace HH := Lib.hid (HH.out.below hb); replace HM := Lib.hid (HM.out.trans (Mod.of_below hb _)); replace HC := Lib.hid (HC.out.below hb); clear hb)
    | ((with_reducible refine gate_buildS (t := 105) rfl ?_); refine Step.value (v := .agg (sc (newS gc now h2))) rfl (build_new rfl rfl rfl rfl rfl _) ?_)
    | ((with_reducible refine Step.gate_box (t := 105) rfl ?_); refine Step.fresh (cs := sc (newS gc now h2)) (T := 105) rfl ?hr ?_; (case hr => first | (go_simp; done) | (go_simp; rfl)); intro g9 w1 b hg hb; have HG := Lib.hid (Nat.le_trans HM.out.size hg); replace HM := Lib.hid (HM.out.trans (Mod.of_below hb _)); replace HC := Lib.hid (HC.out.below hb); have HS := Lib.hid b; clear b hb hg)
    | (go_at_call 40; (with_reducible refine (do_more HC.out).mono ?_); rintro e w' ⟨rfl, rfl⟩))
  go_ret
  exact ⟨g9, rfl, HG.out, HS.out, HC.out, HM.out⟩
/-- A core, before its first step or behind one; its memory. -/
structure Kor (W : World) (gc gm : Nat) (tv : Value) (vmid base : Int) (n : Nat) (mem : Nat → Int) (F : Nat → Prop) : Prop where
  core : (∃ km, Blk W gc (ccg gm tv 0 vmid 0 0 km) TC) ∨ ∃ r, Blk W gc (ccg gm tv 0 vmid 1 0 (.map (some r))) TC ∧ W.heap[r]? = some (.map kindsE 20) ∧ ¬ F r
  ram : Ram W gm base n mem F
  nF : ¬ F gc
theorem Kor.lt {W : World} {gc gm n : Nat} {tv : Value} {vmid base : Int} {mem : Nat → Int} {F : Nat → Prop} (h : Kor W gc gm tv vmid base n mem F) : gc < W.heap.size := by
  rcases h.core with ⟨km, b⟩ | ⟨r, b, _⟩ <;> exact b.lt
theorem Kor.mod {W w : World} {gc gm n : Nat} {tv : Value} {vmid base : Int} {mem : Nat → Int} {F S : Nat → Prop} (h : Kor W gc gm tv vmid base n mem F) (m : Mod S W w) (h1 : ¬ S gc) (h2 : ∀ k, F k → ¬ S k) (h3 : ∀ r, W.heap[r]? = some (.map kindsE 20) → ¬ S r) : Kor w gc gm tv vmid base n mem F :=
  ⟨h.core.imp (fun ⟨km, b⟩ => ⟨km, b.mod m h1⟩) fun ⟨r, b, hk, hr⟩ => ⟨r, b.mod m h1, heap_mod hk m (h3 r hk), hr⟩, h.ram.mod m h2, h.nF⟩
theorem Kor.below {W w : World} {gc gm n : Nat} {tv : Value} {vmid base : Int} {mem : Nat → Int} {F : Nat → Prop} (h : Kor W gc gm tv vmid base n mem F) (b : Below W.heap.size W w) : Kor w gc gm tv vmid base n mem F := h.mod (Mod.of_below b Nil) (fun h => h) (fun _ _ h => h) (fun _ _ h => h)
theorem cell_map {w : World} {g r : Nat} {cs : Array Value} {T : TypeId} {es : Array MapEntry} {c : Nat} (b : Blk w g cs T) (h : w.heap[r]? = some (.map es c)) : g ≠ r := fun e => by
  subst e
  rw [b.out] at h
  cases h
theorem kt_rest (r : Nat) : Rest (fun k => k = r) (KT r (fun _ => True)) := ⟨fun w w' S h m hs => ⟨heap_mod h.1 m (hs r rfl), trivial⟩⟩
theorem begin_any {W : World} {gc gm n : Nat} {tv : Value} {vmid base : Int} {mem : Nat → Int} {F : Nat → Prop} (hk : Kor W gc gm tv vmid base n mem F) (h : Hrt) (hf : Fit h) (now : Int) :
    Calls Tryz.prog 27 #[.pointer (some ⟨gc, 0, none⟩), .agg (hc h), .int .u64 now] W fun e w' => ∃ gs r, e = .returned (.pointer (some ⟨gs, 0, none⟩)) ∧ W.heap.size ≤ gs ∧ Mod (One gc) W w' ∧ ¬ F r ∧ Sy w' gs (newS gc now (ord h)) gm tv 0 vmid (.map (some r)) base n mem F (fun k => k = r) (KT r (fun _ => True)) := by
  have key : ∀ {w' : World} {gs r : Nat}, W.heap.size ≤ gs → Blk w' gs (sc (newS gc now (ord h))) TS → Blk w' gc (ccg gm tv 0 vmid 1 0 (.map (some r))) TC → Mod (One gc) W w' → w'.heap[r]? = some (.map kindsE 20) → ¬ F r → Sy w' gs (newS gc now (ord h)) gm tv 0 vmid (.map (some r)) base n mem F (fun k => k = r) (KT r (fun _ => True)) := by
    intro w' gs r hgs hs hcb m hm hr
    have hlt := hk.lt
    have hram := hk.ram.mod m fun k hkF e => hk.nF ((e : k = gc) ▸ hkF)
    have hbd := hk.ram.bound
    exact ⟨hs, ⟨hcb, hram, kt_rest r, ⟨hm, trivial⟩, hk.nF, cell_map hcb hm, fun k hkF e => hr ((e : k = r) ▸ hkF), fun k e => by have e' : k = r := e; rw [e']; exact (Array.getElem?_eq_some_iff.1 hm).1⟩,
      fun hF => by have := hbd gs hF; omega, cell_map hs hm, fun e => by have e' : gs = gc := e; omega⟩
  rcases hk.core with ⟨km, b⟩ | ⟨r, b, hm, hr⟩
  · refine (begin_first b h hf now).mono ?_
    rintro e w' ⟨gs, he, hgs, hs, r, hrl, hcb, m, hm⟩
    have hr : ¬ F r := fun hF => by have := hk.ram.bound r hF; omega
    exact ⟨gs, r, he, hgs, m, hr, key hgs hs hcb m hm hr⟩
  · refine (begin_more b h hf now).mono ?_
    rintro e w' ⟨gs, he, hgs, hs, hcb, m⟩
    exact ⟨gs, r, he, hgs, m, hr, key hgs hs hcb m (heap_mod hm m fun e => cell_map b hm (e : r = gc).symm) hr⟩
theorem results_rows {P : Program} {fn : Func} {p q : Tmp} {ty ty2 : TypeId} (h : fn.results = #[.cell p ty, .cell q ty2]) (tmps : Array Value) (w : World) (g g2 : Nat) (t t2 : TypeId) (cs cs2 : Array Value) (d d2 : TypeDesc)
    (hp : tmps.getD p undef = .pointer (some ⟨g, 0, none⟩)) (hq : tmps.getD q undef = .pointer (some ⟨g2, 0, none⟩)) (hg : Blk w g cs t) (hg2 : Blk w g2 cs2 t2) (hu : P.underlying ty = some d) (hu2 : P.underlying ty2 = some d2)
    (hd : (match d with | .struct _ | .array _ _ => true | _ => false) = true) (hd2 : (match d2 with | .struct _ | .array _ _ => true | _ => false) = true) (hi : (P.info? ty).map (·.size) = some cs.size) (hi2 : (P.info? ty2).map (·.size) = some cs2.size) :
    (results fn tmps).run P w = .ok (.tuple #[.agg cs, .agg cs2]) w := by
  have h1 := run_loadVar_row (P := P) w g t ty cs (0, 0) d hg.out hu hd hi
  have h2 := run_loadVar_row (P := P) w g2 t2 ty2 cs2 (0, 0) d2 hg2.out hu2 hd2 hi2
  have e : (results fn tmps).run P w = ((asAddr (tmps.getD p undef)).run P w).andThen fun a w₁ => ((loadVar ty a).run P w₁).andThen fun v w₂ => ((asAddr (tmps.getD q undef)).run P w₂).andThen fun a2 w₃ => ((loadVar ty2 a2).run P w₃).andThen fun v2 w₄ => .ok (.tuple #[v, v2]) w₄ := by
    simp only [results, h]
    simp [Sem.run_bind, Result.andThen]
  rw [e, hp, hq]
  simp only [asAddr, Sem.run_pure, Result.andThen_ok, h1, h2]
theorem lays_hc (h h' : Hrt) : lays (hc h) 0 (hc h').toList = hc h' := by
  refine Array.toList_inj.1 ((lays_list _ _ _ (Nat.le_of_ble_eq_true rfl)).trans rfl)
set_option maxHeartbeats 8000000 in
theorem step_any {W : World} {gc gm n : Nat} {tv : Value} {vmid base : Int} {mem mem2 : Nat → Int} {F : Nat → Prop} {s2 : Stp} (hk : Kor W gc gm tv vmid base n mem F) (h : Hrt) (hf : Fit h) (now : Int) (hg2 : s2.gc = gc)
    (HR : ∀ (W' : World) (gs r : Nat), Sy W' gs (newS gc now (ord h)) gm tv 0 vmid (.map (some r)) base n mem F (fun k => k = r) (KT r (fun _ => True)) → Calls Tryz.prog 28 #[.pointer (some ⟨gs, 0, none⟩)] W' fun e w' => e = .returned (.tuple #[]) ∧ Out W' w' gs s2 gm tv 0 vmid (.map (some r)) base n mem2 F (fun k => k = r) (KT r (fun _ => True))) :
    Calls Tryz.prog 12 #[.pointer (some ⟨gc, 0, none⟩), .agg (hc h), .int .u64 now] W fun e w' => e = .returned (.tuple #[.agg (hc s2.h), .agg (ecells s2)]) ∧ ∃ F', Kor w' gc gm tv vmid base n mem2 F' ∧ Mod (fun k => k = gc ∨ F k) W w' ∧ ∀ k, F' k → F k ∨ W.heap.size ≤ k := by
  have HK := Lib.hid hk
  have HF := Lib.hid hf
  replace HR := Lib.hid HR
  have HLT := Lib.hid hk.lt
  have HBD := Lib.hid hk.ram.bound
  clear hk hf
  go_enter Tryz.func12, Tryz.ntmps12
  go_wp2_with (first
    | ((with_reducible refine Step.gate_box (t := 27) rfl ?_); refine Step.fresh (cs := hc h) (T := 27) rfl ?hr ?_; (case hr => first | (go_simp; done) | (go_simp; rfl)); intro g4 w1 b hg hb; have B4 := Lib.hid b; have HB := Lib.hid hb; clear b hb hg)
    | ((with_reducible refine Step.gate_alloc (t := 27) rfl ?_); refine Step.freshAlloc rfl rfl (alloc_agg zero_hart) ?_; intro g6 w2 b hg hb; have B6 := Lib.hid b; have G6 := Lib.hid (Nat.le_trans HB.out.size hg); replace B4 := Lib.hid (B4.out.below hb); replace HB := Lib.hid (below_below HB.out hb); clear b hb hg)
    | ((with_reducible refine Step.gate_alloc (t := 54) rfl ?_); refine Step.freshAlloc rfl rfl (alloc_agg zero_ev) ?_; intro g7 w2 b hg hb; have B7 := Lib.hid b; have G67 := Lib.hid (show g6 ≠ g7 from fun e => by have := B6.out.lt; omega); have G7 := Lib.hid (Nat.le_trans HB.out.size hg); replace B4 := Lib.hid (B4.out.below hb); replace B6 := Lib.hid (B6.out.below hb); replace HB := Lib.hid (below_below HB.out hb); clear b hb hg)
    | ((with_reducible refine Step.gate_load (t := 27) rfl ?_); refine Step.loadAll B4.out rfl rfl rfl Tryz.underlying27 rfl (size_hart _) ?_)
    | (go_at_call 27; (with_reducible refine (begin_any (HK.out.below HB.out) h HF.out now).mono ?_); rintro e wb ⟨gs, r, rfl, hgs, m, hr, hy⟩; have L6 := Lib.hid (Nat.lt_of_lt_of_le B6.out.lt m.size); have L7 := Lib.hid (Nat.lt_of_lt_of_le B7.out.lt m.size); have HS6 := Lib.hid (show g6 ≠ gs from fun e => by have := B6.out.lt; omega); have HS7 := Lib.hid (show g7 ≠ gs from fun e => by have := B7.out.lt; omega); replace B6 := Lib.hid (B6.out.one m (by have := G6.out; have := HLT.out; omega)); replace B7 := Lib.hid (B7.out.one m (by have := G7.out; have := HLT.out; omega)); have HM := Lib.hid ((Mod.of_below HB.out (fun k => k = gc ∨ F k)).trans (m.mono fun k _ e => .inl e)); have HY := Lib.hid hy; have HRF := Lib.hid hr; have HSZ := Lib.hid (Nat.le_trans HB.out.size hgs); clear hgs m hr hy)
    | (go_at_call 28; (with_reducible refine (HR.out _ _ _ HY.out).mono ?_); rintro e wr ⟨rfl, ho⟩; have HO := Lib.hid ho; have HMr := Lib.hid (show Mod (fun k => k = gs ∨ F k) wb wr from ho.choose_spec.2.1); replace B6 := Lib.hid (B6.out.mod HMr.out (fun e => e.elim HS6.out fun hF => by have := HBD.out _ hF; have := G6.out; omega)); replace B7 := Lib.hid (B7.out.mod HMr.out (fun e => e.elim HS7.out fun hF => by have := HBD.out _ hF; have := G7.out; omega)); have BDR := Lib.hid (show Below wr.heap.size wr { wr with drawn := wr.drawn + 1 } from ⟨rfl, rfl, rfl, Nat.le_refl _, fun _ _ => rfl⟩); clear ho)
    | ((with_reducible refine Sq.regionJ (id := 3) (J := fun j X => Blk X gs (sc s2) TS ∧ Blk X g6 (hc (match j with | 0 => zh | _ => s2.h)) 27 ∧ Blk X g7 #[.int .i64 0, .int .i64 0, .int .u64 0, .int .u64 0, .bool false, .bool false] 54 ∧ Mod (One g6) wr X) ?hm6 9 [8] [.keep 0 0, .keep 0 0, .keep 0 0, .keep 0 0, .keep 0 1, .keep 0 1, .keep 0 1, .keep 0 1, .eff 0] ?hi6 ?hp6 ?hf6 ?hs6); (case hm6 => rfl); (case hi6 => exact ⟨HO.out.step.below BDR.out, B6.out.below BDR.out, B7.out.below BDR.out, Mod.of_below BDR.out _⟩); (case hp6 => kernel_rfl); (case hf6 => kernel_rfl); intro ops K hops hK; clear hops; dsimp only [List.take]; (repeat (first | (refine Sq.seqJ_move rfl rfl ?_; simp only [Act.put, Act.eval, Array.getD_eq_getD_getElem?, List.getElem?_toArray, List.getElem?_cons_zero, List.getElem?_cons_succ, Option.getD_some, List.setIfInBounds_toArray, List.set_cons_zero, List.set_cons_succ]) | (refine Sq.seqJ_check rfl rfl rfl ?_; simp only [Act.put, Act.eval, Array.getD_eq_getD_getElem?, List.getElem?_toArray, List.getElem?_cons_zero, List.getElem?_cons_succ, Option.getD_some, List.setIfInBounds_toArray, List.set_cons_zero, List.set_cons_succ]) | (refine Sq.seqJ_row (t := 27) (fun j _ _ X hX => hX.1) (Sq.wanted_none rfl) rfl rfl (fun j => row_h _) Tryz.underlying27 rfl (size_hart _) ?_; simp only [Act.put, Act.eval, Array.getD_eq_getD_getElem?, List.getElem?_toArray, List.getElem?_cons_zero, List.getElem?_cons_succ, Option.getD_some, List.setIfInBounds_toArray, List.set_cons_zero, List.set_cons_succ]) | (refine Sq.seqJ_row (t := 54) (fun j _ _ X hX => hX.1) (Sq.wanted_none rfl) rfl rfl (fun j => row_e _) Tryz.underlying54 rfl size_ev ?_; simp only [Act.put, Act.eval, Array.getD_eq_getD_getElem?, List.getElem?_toArray, List.getElem?_cons_zero, List.getElem?_cons_succ, Option.getD_some, List.setIfInBounds_toArray, List.set_cons_zero, List.set_cons_succ]) | (refine Sq.seqJ_storeRow (cs := hc zh) (vs := hc s2.h) (fun X hX => hX.2.1) rfl rfl rfl rfl rfl (size_hart _) rfl (hc_all _) (fun X X' hX nb m => ?_) ?_; · exact ⟨hX.1.one m HS6.out.symm, (lays_hc zh s2.h) ▸ nb, hX.2.2.1.one m G67.out.symm, hX.2.2.2.trans m⟩) | (refine' Sq.seqJ_pure rfl (fun X => _) _; rotate_left; (first | (go_simp; done) | (go_simp; rfl)); simp only [Act.put, Act.eval, Array.getD_eq_getD_getElem?, List.getElem?_toArray, List.getElem?_cons_zero, List.getElem?_cons_succ, Option.getD_some, List.setIfInBounds_toArray, List.set_cons_zero, List.set_cons_succ]))); refine Sq.seqJ_nil ?_; refine hK.out _ fun w1 hk => ?_; clear hK; have HJ := Lib.hid (show Blk w1 gs (sc s2) TS ∧ Blk w1 g6 (hc s2.h) _ ∧ Blk w1 g7 _ _ ∧ Mod (One g6) wr w1 from hk); clear hk; dsimp only [List.drop])
    | ((with_reducible refine Step.gate_store (t := 54) rfl ?_); refine Step.storeAll (vs := ecells s2) HJ.out.2.2.1 rfl rfl rfl rfl rfl size_ev rfl rfl ?_; intro w3 nb m; have H7 := Lib.hid nb; have H6 := Lib.hid (HJ.out.2.1.one m G67.out); have HM7 := Lib.hid m; clear nb m))
  refine bodyPost_ret (results_rows rfl _ _ g6 g7 _ _ _ _ _ _ rfl rfl H6.out H7.out Tryz.underlying27 Tryz.underlying54 rfl rfl (size_hart _) size_ev) rfl ⟨rfl, ?_⟩
  obtain ⟨F', y, m, c⟩ := HO.out
  have n6 : ∀ k, k < W.heap.size → ¬ One g6 k := fun k hk e => by have e' : k = g6 := e; have := G6.out; omega
  have n7 : ∀ k, k < W.heap.size → ¬ One g7 k := fun k hk e => by have e' : k = g7 := e; have := G7.out; omega
  have hF' : ∀ k, F' k → k ≠ g6 ∧ k ≠ g7 := by
    intro k hk
    have l6 := L6.out
    have l7 := L7.out
    have e6 := G6.out
    have e7 := G7.out
    rcases c k hk with hf | hf
    · have := HBD.out k hf
      exact ⟨by omega, by omega⟩
    · exact ⟨by omega, by omega⟩
  have m6 := HJ.out.2.2.2
  have m7 := HM7.out
  have lg := HLT.out
  have hm := HM.out
  have hsz := HSZ.out
  have r6 : g6 ≠ r := cell_map B6.out y.mc.tlb.1
  have r7 : g7 ≠ r := cell_map B7.out y.mc.tlb.1
  have ct := y.mc.tlb.1
  have cc := y.mc.core
  have cn := y.mc.nF
  have cr := y.mc.ram
  have cf := y.mc.fg r
  rw [hg2] at cc cn
  refine ⟨F', ⟨.inr ⟨r, (cc.mod m6 (n6 gc lg)).mod m7 (n7 gc lg), heap_mod (heap_mod ct m6 fun e => r6 (e : r = g6).symm) m7 fun e => r7 (e : r = g7).symm, fun hr => cf hr rfl⟩, (cr.mod m6 fun k hk e => (hF' k hk).1 e).mod m7 fun k hk e => (hF' k hk).2 e, cn⟩, ?_, fun k hk => (c k hk).imp id fun h => Nat.le_trans hm.size h⟩
  exact ((hm.trans_new m fun i hi e => e.elim (fun e => absurd hi (by omega)) .inr).trans_new m6 fun i hi e => absurd e (n6 i hi)).trans_new m7 fun i hi e => absurd e (n7 i hi)
end Go.Proofs.YtidiojhefjhojaaGreat.Hart
end
section
namespace Go.Proofs.YtidiojhefjhojaaGreat.Hart
open Go Go.RowKit Go.Proofs.YtidiojhefjhojaaGreat.Step Go.Proofs.YtidiojhefjhojaaGreat.Enc Go.Proofs.YtidiojhefjhojaaGreat.Kn
set_option linter.unusedVariables false
set_option linter.unusedSimpArgs false
set_option maxRecDepth 100000
/-- An access. -/
structure Acc where
  st : Bool
  sg : Bool
  sz : Int
  rg : Int
  ln : Int
  va : Int
  vl : Int
def Acc.cells (a : Acc) : Array Value := #[.bool a.st, .bool a.sg, .int .i64 a.sz, .int .i64 a.rg, .int .i64 a.ln, .int .u64 a.va, .int .u64 a.vl]
def Acc.zero : Acc := ⟨false, false, 0, 0, 0, 0, 0⟩
/-- An event. -/
structure Evt where
  kd : Int
  ak : Int
  va : Int
  gpa : Int
  wk : Bool
  wr : Bool
def Evt.cells (e : Evt) : Array Value := #[.int .i64 e.kd, .int .i64 e.ak, .int .u64 e.va, .int .u64 e.gpa, .bool e.wk, .bool e.wr]
theorem zero_acc : (Tryz.prog.info? 45).bind (·.zero) = some (.agg #[.bool false, .bool false, .int .i64 0, .int .i64 0, .int .i64 0, .int .u64 0, .int .u64 0]) := by kernel_rfl
theorem size_acc : (Tryz.prog.info? 45).map (·.size) = some 7 := by kernel_rfl
theorem morder_any (h : Hrt) (hf : Fit h) (w : World) : Calls Tryz.prog 17 #[.agg (hc h)] w fun e w' => e = .returned (.agg (hc (ord h))) ∧ Below w.heap.size w w' := by
  have T0 := Lib.hid (write_none h hf 0)
  clear hf
  generalize ord h = h2 at *
  go_enter Tryz.func17, Tryz.ntmps17
  have ST := Lib.hid (Kn.nil (S := Step.Nil) (W := w))
  go_wp2_with (first
    | (go_at_call 35; (with_reducible refine (T0.out _).mono ?_); rintro e w' ⟨rfl, hb⟩; replace ST := Lib.hid (ST.out.call hb); clear hb)
    | ((with_reducible refine Step.gate_box (t := 27) rfl ?_); refine Step.fresh (cs := hc h) (T := 27) rfl ?hr ?_; (case hr => first | (go_simp; done)); intro g1 w1 b hg hb; replace ST := Lib.hid (ST.out.made b hg hb); clear b hb; clear hg)
    | ((with_reducible refine Step.gate_alloc (t := 27) rfl ?_); refine Step.freshAlloc rfl rfl (alloc_agg zero_hart) ?_; intro g2 w2 b hg hb; replace ST := Lib.hid (ST.out.made b hg hb); clear b hb; clear hg)
    | ((with_reducible refine Step.gate_store (t := 27) rfl ?_); refine Step.storeAll ST.out.at0 rfl rfl rfl rfl rfl (size_hart _) rfl (hc_all _) ?_; intro w3 nb m; replace ST := Lib.hid (ST.out.set0 nb m); clear nb m)
    | ((with_reducible refine Step.gate_store (t := 27) rfl ?_); refine Step.storeAll ST.out.at1 rfl rfl rfl rfl rfl (size_hart _) rfl (hc_all _) ?_; intro w3 nb m; replace ST := Lib.hid (ST.out.set1 nb m); clear nb m)
    | ((with_reducible refine Step.gate_load (t := 27) rfl ?_); refine Step.loadAll ST.out.at1 rfl rfl rfl Tryz.underlying27 rfl (size_hart _) ?_))
  all_goals (refine bodyPost_ret (results_row rfl _ _ _ _ _ _ rfl ST.out.at0 Tryz.underlying27 rfl (size_hart _)) rfl ⟨rfl, ST.out.below⟩)
/-- A hart behind a load or store that is ended. -/
def finP (h : Hrt) (ln : Int) : Hrt := { h with pc := IntKind.u64.wrap (h.pc + IntKind.u64.wrap ln) }
def finX (h : Hrt) (n : Nat) (v : Int) : Hrt := { h with x := xup h.x n v }
def fin (h : Hrt) (a : Acc) (v : Int) : Hrt := ord (if a.st = false ∧ 1 ≤ a.rg ∧ a.rg ≤ 31 then finX (finP (ord h) a.ln) a.rg.toNat (extV v a.sz a.sg) else finP (ord h) a.ln)
theorem wrapu_w (v : Int) : U64 (IntKind.u64.wrap v) := by refine ⟨?_⟩; rw [IntKind.wrap_u64]; omega
theorem finP_fit {h : Hrt} (hf : Fit h) (ln : Int) : Fit (finP h ln) := { hf with pc := wrapu_w _ }
theorem finX_fit {h : Hrt} (hf : Fit h) (n : Nat) {v : Int} (hv : U64 v) : Fit (finX h n v) := by
  refine { hf with x := fun i hi => ?_ }
  show U64 (xup h.x n v i)
  unfold xup
  split
  · exact hv
  · exact hf.x i hi
theorem nat_blt {a b : Nat} (h : a < b) : Nat.blt a b = true := Nat.ble_eq_true_of_le h
set_option maxHeartbeats 4000000 in
theorem finish_st (h : Hrt) (hf : Fit h) (sg : Bool) (sz rg ln va vl v : Int) (w : World) : Calls Tryz.prog 13 #[.agg (hc h), .agg #[.bool true, .bool sg, .int .i64 sz, .int .i64 rg, .int .i64 ln, .int .u64 va, .int .u64 vl], .int .u64 v] w fun e w' => e = .returned (.agg (hc (ord (finP (ord h) ln)))) ∧ Below w.heap.size w w' := by
  have T0 := Lib.hid (morder_any h hf)
  have T1 := Lib.hid (morder_any (finP (ord h) ln) (finP_fit (ord_fit hf) ln))
  clear hf
  generalize ord (finP (ord h) ln) = r at *
  dsimp only [finP] at T1
  generalize ord h = h2 at *
  go_enter Tryz.func13, Tryz.ntmps13
  have ST := Lib.hid (Kn.nil (S := Step.Nil) (W := w))
  go_wp2_with (first
    | (go_at_call 17; (with_reducible refine (T0.out _).mono ?_); rintro e w' ⟨rfl, hb⟩; replace ST := Lib.hid (ST.out.call hb); clear hb)
    | (go_at_call 17; (with_reducible refine (T1.out _).mono ?_); rintro e w' ⟨rfl, hb⟩; replace ST := Lib.hid (ST.out.call hb); clear hb)
    | ((with_reducible refine Step.gate_box (t := 27) rfl ?_); refine Step.fresh (cs := hc h) (T := 27) rfl ?hr ?_; (case hr => first | (go_simp; done)); intro g1 w1 b hg hb; replace ST := Lib.hid (ST.out.made b hg hb); clear b hb; clear hg)
    | ((with_reducible refine Step.gate_box (t := 45) rfl ?_); refine Step.fresh (cs := #[.bool true, .bool sg, .int .i64 sz, .int .i64 rg, .int .i64 ln, .int .u64 va, .int .u64 vl]) (T := 45) rfl ?hr ?_; (case hr => first | (go_simp; done)); intro g2 w1 b hg hb; replace ST := Lib.hid (ST.out.made b hg hb); clear b hb; clear hg)
    | ((with_reducible refine Step.gate_alloc (t := 27) rfl ?_); refine Step.freshAlloc rfl rfl (alloc_agg zero_hart) ?_; intro g3 w2 b hg hb; replace ST := Lib.hid (ST.out.made b hg hb); clear b hb; clear hg)
    | ((with_reducible refine Step.gate_load (t := 3) rfl ?_); refine Step.load ST.out.at1 rfl rfl rfl pl_int rfl ?_)
    | ((with_reducible refine Step.gate_load (t := 4) rfl ?_); refine Step.load ST.out.at1 rfl rfl rfl pl_bool rfl ?_)
    | ((with_reducible refine Step.gate_load (t := 22) rfl ?_); refine Step.load ST.out.at2 rfl rfl rfl pl_u64 (hv_ok _ (by decide)) ?_; simp only [hv_x0, hv_pc, hv_user, hv_on, hv_spie, hv_spp, hv_sum, hv_mxr, hv_rsv, hv_stvec, hv_sscr, hv_sepc, hv_scause, hv_stval, hv_sie, hv_sip, hv_satp, hv_resv])
    | ((with_reducible refine Step.gate_store (t := 22) rfl ?_); refine Step.store ST.out.at2 rfl rfl rfl rfl rfl pl_u64 rfl rfl ?_; intro w3 nb m; simp [go_sem, set_x0, set_pc, set_user, set_on, set_spie, set_spp, set_sum, set_mxr, set_rsv, set_stvec, set_sscr, set_sepc, set_scause, set_stval, set_sie, set_sip, set_satp, set_resv] at nb; replace ST := Lib.hid (ST.out.set2 nb m); clear nb m)
    | ((with_reducible refine Step.gate_store (t := 27) rfl ?_); refine Step.storeAll ST.out.at2 rfl rfl rfl rfl rfl (size_hart _) rfl (hc_all _) ?_; intro w3 nb m; replace ST := Lib.hid (ST.out.set2 nb m); clear nb m)
    | ((with_reducible refine Step.gate_load (t := 27) rfl ?_); refine Step.loadAll ST.out.at2 rfl rfl rfl Tryz.underlying27 rfl (size_hart _) ?_)
    | ((with_reducible refine Step.gate_store (t := 27) rfl ?_); refine Step.storeAll ST.out.at0 rfl rfl rfl rfl rfl (size_hart _) rfl (hc_all _) ?_; intro w3 nb m; replace ST := Lib.hid (ST.out.set0 nb m); clear nb m))
  all_goals (refine bodyPost_ret (results_row rfl _ _ _ _ _ _ rfl ST.out.at0 Tryz.underlying27 rfl (size_hart _)) rfl ⟨rfl, ST.out.below⟩)
set_option maxHeartbeats 4000000 in
theorem finish_lo (h : Hrt) (hf : Fit h) (sg : Bool) (sz rg ln va vl v : Int) (hl : ¬ 1 ≤ rg) (w : World) : Calls Tryz.prog 13 #[.agg (hc h), .agg #[.bool false, .bool sg, .int .i64 sz, .int .i64 rg, .int .i64 ln, .int .u64 va, .int .u64 vl], .int .u64 v] w fun e w' => e = .returned (.agg (hc (ord (finP (ord h) ln)))) ∧ Below w.heap.size w w' := by
  have e1 : (rg ≥ 1) = False := eq_false hl
  have T0 := Lib.hid (morder_any h hf)
  have T1 := Lib.hid (morder_any (finP (ord h) ln) (finP_fit (ord_fit hf) ln))
  clear hf
  generalize ord (finP (ord h) ln) = r at *
  dsimp only [finP] at T1
  generalize ord h = h2 at *
  go_enter Tryz.func13, Tryz.ntmps13
  have ST := Lib.hid (Kn.nil (S := Step.Nil) (W := w))
  go_wp2_with (first
    | (go_at_call 17; (with_reducible refine (T0.out _).mono ?_); rintro e w' ⟨rfl, hb⟩; replace ST := Lib.hid (ST.out.call hb); clear hb)
    | (go_at_call 17; (with_reducible refine (T1.out _).mono ?_); rintro e w' ⟨rfl, hb⟩; replace ST := Lib.hid (ST.out.call hb); clear hb)
    | ((with_reducible refine Step.gate_box (t := 27) rfl ?_); refine Step.fresh (cs := hc h) (T := 27) rfl ?hr ?_; (case hr => first | (go_simp; done)); intro g1 w1 b hg hb; replace ST := Lib.hid (ST.out.made b hg hb); clear b hb; clear hg)
    | ((with_reducible refine Step.gate_box (t := 45) rfl ?_); refine Step.fresh (cs := #[.bool false, .bool sg, .int .i64 sz, .int .i64 rg, .int .i64 ln, .int .u64 va, .int .u64 vl]) (T := 45) rfl ?hr ?_; (case hr => first | (go_simp; done)); intro g2 w1 b hg hb; replace ST := Lib.hid (ST.out.made b hg hb); clear b hb; clear hg)
    | ((with_reducible refine Step.gate_alloc (t := 27) rfl ?_); refine Step.freshAlloc rfl rfl (alloc_agg zero_hart) ?_; intro g3 w2 b hg hb; replace ST := Lib.hid (ST.out.made b hg hb); clear b hb; clear hg)
    | ((with_reducible refine Step.gate_load (t := 3) rfl ?_); refine Step.load ST.out.at1 rfl rfl rfl pl_int rfl ?_)
    | ((with_reducible refine Step.gate_load (t := 4) rfl ?_); refine Step.load ST.out.at1 rfl rfl rfl pl_bool rfl ?_)
    | ((with_reducible refine Step.gate_load (t := 3) rfl ?_); refine Step.loadG ST.out.at1 rfl rfl rfl pl_int rfl ?_)
    | ((with_reducible refine Step.gate_load (t := 22) rfl ?_); refine Step.load ST.out.at2 rfl rfl rfl pl_u64 (hv_ok _ (by decide)) ?_; simp only [hv_x0, hv_pc, hv_user, hv_on, hv_spie, hv_spp, hv_sum, hv_mxr, hv_rsv, hv_stvec, hv_sscr, hv_sepc, hv_scause, hv_stval, hv_sie, hv_sip, hv_satp, hv_resv])
    | ((with_reducible refine Step.gate_store (t := 22) rfl ?_); refine Step.store ST.out.at2 rfl rfl rfl rfl rfl pl_u64 rfl rfl ?_; intro w3 nb m; simp [go_sem, set_x0, set_pc, set_user, set_on, set_spie, set_spp, set_sum, set_mxr, set_rsv, set_stvec, set_sscr, set_sepc, set_scause, set_stval, set_sie, set_sip, set_satp, set_resv] at nb; replace ST := Lib.hid (ST.out.set2 nb m); clear nb m)
    | ((with_reducible refine Step.gate_store (t := 27) rfl ?_); refine Step.storeAll ST.out.at2 rfl rfl rfl rfl rfl (size_hart _) rfl (hc_all _) ?_; intro w3 nb m; replace ST := Lib.hid (ST.out.set2 nb m); clear nb m)
    | ((with_reducible refine Step.gate_load (t := 27) rfl ?_); refine Step.loadAll ST.out.at2 rfl rfl rfl Tryz.underlying27 rfl (size_hart _) ?_)
    | ((with_reducible refine Step.gate_store (t := 27) rfl ?_); refine Step.storeAll ST.out.at0 rfl rfl rfl rfl rfl (size_hart _) rfl (hc_all _) ?_; intro w3 nb m; replace ST := Lib.hid (ST.out.set0 nb m); clear nb m))
  all_goals (refine bodyPost_ret (results_row rfl _ _ _ _ _ _ rfl ST.out.at0 Tryz.underlying27 rfl (size_hart _)) rfl ⟨rfl, ST.out.below⟩)
set_option maxHeartbeats 4000000 in
theorem finish_hi (h : Hrt) (hf : Fit h) (sg : Bool) (sz rg ln va vl v : Int) (hl : 1 ≤ rg) (hh : ¬ rg ≤ 31) (w : World) : Calls Tryz.prog 13 #[.agg (hc h), .agg #[.bool false, .bool sg, .int .i64 sz, .int .i64 rg, .int .i64 ln, .int .u64 va, .int .u64 vl], .int .u64 v] w fun e w' => e = .returned (.agg (hc (ord (finP (ord h) ln)))) ∧ Below w.heap.size w w' := by
  have e1 : (rg ≥ 1) = True := eq_true hl
  have e2 : (rg ≤ 31) = False := eq_false hh
  have T0 := Lib.hid (morder_any h hf)
  have T1 := Lib.hid (morder_any (finP (ord h) ln) (finP_fit (ord_fit hf) ln))
  clear hf
  generalize ord (finP (ord h) ln) = r at *
  dsimp only [finP] at T1
  generalize ord h = h2 at *
  go_enter Tryz.func13, Tryz.ntmps13
  have ST := Lib.hid (Kn.nil (S := Step.Nil) (W := w))
  go_wp2_with (first
    | (go_at_call 17; (with_reducible refine (T0.out _).mono ?_); rintro e w' ⟨rfl, hb⟩; replace ST := Lib.hid (ST.out.call hb); clear hb)
    | (go_at_call 17; (with_reducible refine (T1.out _).mono ?_); rintro e w' ⟨rfl, hb⟩; replace ST := Lib.hid (ST.out.call hb); clear hb)
    | ((with_reducible refine Step.gate_box (t := 27) rfl ?_); refine Step.fresh (cs := hc h) (T := 27) rfl ?hr ?_; (case hr => first | (go_simp; done)); intro g1 w1 b hg hb; replace ST := Lib.hid (ST.out.made b hg hb); clear b hb; clear hg)
    | ((with_reducible refine Step.gate_box (t := 45) rfl ?_); refine Step.fresh (cs := #[.bool false, .bool sg, .int .i64 sz, .int .i64 rg, .int .i64 ln, .int .u64 va, .int .u64 vl]) (T := 45) rfl ?hr ?_; (case hr => first | (go_simp; done)); intro g2 w1 b hg hb; replace ST := Lib.hid (ST.out.made b hg hb); clear b hb; clear hg)
    | ((with_reducible refine Step.gate_alloc (t := 27) rfl ?_); refine Step.freshAlloc rfl rfl (alloc_agg zero_hart) ?_; intro g3 w2 b hg hb; replace ST := Lib.hid (ST.out.made b hg hb); clear b hb; clear hg)
    | ((with_reducible refine Step.gate_load (t := 3) rfl ?_); refine Step.load ST.out.at1 rfl rfl rfl pl_int rfl ?_)
    | ((with_reducible refine Step.gate_load (t := 4) rfl ?_); refine Step.load ST.out.at1 rfl rfl rfl pl_bool rfl ?_)
    | ((with_reducible refine Step.gate_load (t := 3) rfl ?_); refine Step.loadG ST.out.at1 rfl rfl rfl pl_int rfl ?_)
    | ((with_reducible refine Step.gate_load (t := 22) rfl ?_); refine Step.load ST.out.at2 rfl rfl rfl pl_u64 (hv_ok _ (by decide)) ?_; simp only [hv_x0, hv_pc, hv_user, hv_on, hv_spie, hv_spp, hv_sum, hv_mxr, hv_rsv, hv_stvec, hv_sscr, hv_sepc, hv_scause, hv_stval, hv_sie, hv_sip, hv_satp, hv_resv])
    | ((with_reducible refine Step.gate_store (t := 22) rfl ?_); refine Step.store ST.out.at2 rfl rfl rfl rfl rfl pl_u64 rfl rfl ?_; intro w3 nb m; simp [go_sem, set_x0, set_pc, set_user, set_on, set_spie, set_spp, set_sum, set_mxr, set_rsv, set_stvec, set_sscr, set_sepc, set_scause, set_stval, set_sie, set_sip, set_satp, set_resv] at nb; replace ST := Lib.hid (ST.out.set2 nb m); clear nb m)
    | ((with_reducible refine Step.gate_store (t := 27) rfl ?_); refine Step.storeAll ST.out.at2 rfl rfl rfl rfl rfl (size_hart _) rfl (hc_all _) ?_; intro w3 nb m; replace ST := Lib.hid (ST.out.set2 nb m); clear nb m)
    | ((with_reducible refine Step.gate_load (t := 27) rfl ?_); refine Step.loadAll ST.out.at2 rfl rfl rfl Tryz.underlying27 rfl (size_hart _) ?_)
    | ((with_reducible refine Step.gate_store (t := 27) rfl ?_); refine Step.storeAll ST.out.at0 rfl rfl rfl rfl rfl (size_hart _) rfl (hc_all _) ?_; intro w3 nb m; replace ST := Lib.hid (ST.out.set0 nb m); clear nb m))
  all_goals (refine bodyPost_ret (results_row rfl _ _ _ _ _ _ rfl ST.out.at0 Tryz.underlying27 rfl (size_hart _)) rfl ⟨rfl, ST.out.below⟩)
set_option maxHeartbeats 4000000 in
theorem finish_ld (h : Hrt) (hf : Fit h) {n : Nat} (sg : Bool) (sz ln va vl v : Int) (hv : U64 v) (h1 : 1 ≤ n) (hn : n < 32) (w : World) : Calls Tryz.prog 13 #[.agg (hc h), .agg #[.bool false, .bool sg, .int .i64 sz, .int .i64 (n : Nat), .int .i64 ln, .int .u64 va, .int .u64 vl], .int .u64 v] w fun e w' => e = .returned (.agg (hc (ord (finX (finP (ord h) ln) n (extV v sz sg))))) ∧ Below w.heap.size w w' := by
  have e1 : ((n : Int) ≥ 1) = True := eq_true (by omega)
  have e2 : ((n : Int) ≤ 31) = True := eq_true (by omega)
  have TE := Lib.hid (extend_any hv sz sg)
  have T0 := Lib.hid (morder_any h hf)
  have T1 := Lib.hid (morder_any (finX (finP (ord h) ln) n (extV v sz sg)) (finX_fit (finP_fit (ord_fit hf) ln) n (extV_w hv sz sg)))
  clear hf hv
  generalize ord (finX (finP (ord h) ln) n (extV v sz sg)) = r at *
  dsimp only [finP, finX] at T1
  generalize ord h = h2 at *
  generalize extV v sz sg = u at *
  go_enter Tryz.func13, Tryz.ntmps13
  have ST := Lib.hid (Kn.nil (S := Step.Nil) (W := w))
  go_wp2_with (first
    | ((with_reducible refine Sq.region (id := 4) (I := fun X => Kn _ _ X _) ?hm1 9 ST.out.drew ?hp1 ?hs1); (case hm1 => rfl); (case hp1 => kernel_rfl); intro ops K hops hK; clear hops; dsimp only [List.take]; (repeat (first | (refine Sq.seq_move rfl rfl ?_; simp only [Act.put, Act.eval, Array.getD_eq_getD_getElem?, List.getElem?_toArray, List.getElem?_cons_zero, List.getElem?_cons_succ, Option.getD_some, List.setIfInBounds_toArray, List.set_cons_zero, List.set_cons_succ]) | (refine Sq.seq_load (t := 3) (fun X hX => hX.at1) (Sq.wanted_none rfl) rfl rfl pl_int rfl ?_; simp only [Act.put, Act.eval, Array.getD_eq_getD_getElem?, List.getElem?_toArray, List.getElem?_cons_zero, List.getElem?_cons_succ, Option.getD_some, List.setIfInBounds_toArray, List.set_cons_zero, List.set_cons_succ]) | (refine Sq.seq_load (t := 4) (fun X hX => hX.at1) (Sq.wanted_none rfl) rfl rfl pl_bool rfl ?_; simp only [Act.put, Act.eval, Array.getD_eq_getD_getElem?, List.getElem?_toArray, List.getElem?_cons_zero, List.getElem?_cons_succ, Option.getD_some, List.setIfInBounds_toArray, List.set_cons_zero, List.set_cons_succ]) | (refine Sq.seq_call 23 rfl (Sq.wanted_none rfl) (fun X => ?_) (fun X hX => (TE.out X).mono fun e w' h => ⟨h.1, hX.call h.2⟩) ?_; (focus (first | (go_simp; done))); simp only [Act.put, Act.eval, Array.getD_eq_getD_getElem?, List.getElem?_toArray, List.getElem?_cons_zero, List.getElem?_cons_succ, Option.getD_some, List.setIfInBounds_toArray, List.set_cons_zero, List.set_cons_succ]) | (refine' Sq.seq_pure rfl (fun X => _) _; rotate_left; (first | (go_simp; rfl)); simp only [Act.put, Act.eval, Array.getD_eq_getD_getElem?, List.getElem?_toArray, List.getElem?_cons_zero, List.getElem?_cons_succ, Option.getD_some, List.setIfInBounds_toArray, List.set_cons_zero, List.set_cons_succ]))); refine Sq.seq_nil ?_; refine hK.out _ fun w1 hk => ?_; clear hK; replace ST := Lib.hid hk; clear hk; dsimp only [List.drop])
    | ((with_reducible refine Step.gate_store (t := 22) rfl ?_); refine Step.store ST.out.at2 rfl rfl rfl rfl rfl pl_u64 rfl (nat_blt (by rw [hc_size]; omega)) ?_; intro w3 nb m; simp only [Act.eval, Array.getD_eq_getD_getElem?, List.getElem?_toArray, List.getElem?_cons_zero, List.getElem?_cons_succ, Option.getD_some] at nb; rw [set_x _ hn] at nb; replace ST := Lib.hid (ST.out.set2 nb m); clear nb m)
    | (go_at_call 17; (with_reducible refine (T0.out _).mono ?_); rintro e w' ⟨rfl, hb⟩; replace ST := Lib.hid (ST.out.call hb); clear hb)
    | (go_at_call 17; (with_reducible refine (T1.out _).mono ?_); rintro e w' ⟨rfl, hb⟩; replace ST := Lib.hid (ST.out.call hb); clear hb)
    | ((with_reducible refine Step.gate_box (t := 27) rfl ?_); refine Step.fresh (cs := hc h) (T := 27) rfl ?hr ?_; (case hr => first | (go_simp; done)); intro g1 w1 b hg hb; replace ST := Lib.hid (ST.out.made b hg hb); clear b hb; clear hg)
    | ((with_reducible refine Step.gate_box (t := 45) rfl ?_); refine Step.fresh (cs := #[.bool false, .bool sg, .int .i64 sz, .int .i64 (n : Nat), .int .i64 ln, .int .u64 va, .int .u64 vl]) (T := 45) rfl ?hr ?_; (case hr => first | (go_simp; done)); intro g2 w1 b hg hb; replace ST := Lib.hid (ST.out.made b hg hb); clear b hb; clear hg)
    | ((with_reducible refine Step.gate_alloc (t := 27) rfl ?_); refine Step.freshAlloc rfl rfl (alloc_agg zero_hart) ?_; intro g3 w2 b hg hb; replace ST := Lib.hid (ST.out.made b hg hb); clear b hb; clear hg)
    | ((with_reducible refine Step.gate_load (t := 3) rfl ?_); refine Step.load ST.out.at1 rfl rfl rfl pl_int rfl ?_)
    | ((with_reducible refine Step.gate_load (t := 4) rfl ?_); refine Step.load ST.out.at1 rfl rfl rfl pl_bool rfl ?_)
    | ((with_reducible refine Step.gate_load (t := 3) rfl ?_); refine Step.loadG ST.out.at1 rfl rfl rfl pl_int rfl ?_)
    | ((with_reducible refine Step.gate_load (t := 22) rfl ?_); refine Step.load ST.out.at2 rfl rfl rfl pl_u64 (hv_ok _ (by decide)) ?_; simp only [hv_x0, hv_pc, hv_user, hv_on, hv_spie, hv_spp, hv_sum, hv_mxr, hv_rsv, hv_stvec, hv_sscr, hv_sepc, hv_scause, hv_stval, hv_sie, hv_sip, hv_satp, hv_resv])
    | ((with_reducible refine Step.gate_store (t := 22) rfl ?_); refine Step.store ST.out.at2 rfl rfl rfl rfl rfl pl_u64 rfl rfl ?_; intro w3 nb m; simp [go_sem, set_x0, set_pc, set_user, set_on, set_spie, set_spp, set_sum, set_mxr, set_rsv, set_stvec, set_sscr, set_sepc, set_scause, set_stval, set_sie, set_sip, set_satp, set_resv] at nb; replace ST := Lib.hid (ST.out.set2 nb m); clear nb m)
    | ((with_reducible refine Step.gate_store (t := 27) rfl ?_); refine Step.storeAll ST.out.at2 rfl rfl rfl rfl rfl (size_hart _) rfl (hc_all _) ?_; intro w3 nb m; replace ST := Lib.hid (ST.out.set2 nb m); clear nb m)
    | ((with_reducible refine Step.gate_load (t := 27) rfl ?_); refine Step.loadAll ST.out.at2 rfl rfl rfl Tryz.underlying27 rfl (size_hart _) ?_)
    | ((with_reducible refine Step.gate_store (t := 27) rfl ?_); refine Step.storeAll ST.out.at0 rfl rfl rfl rfl rfl (size_hart _) rfl (hc_all _) ?_; intro w3 nb m; replace ST := Lib.hid (ST.out.set0 nb m); clear nb m))
  all_goals (refine bodyPost_ret (results_row rfl _ _ _ _ _ _ rfl ST.out.at0 Tryz.underlying27 rfl (size_hart _)) rfl ⟨rfl, ST.out.below⟩)
theorem finish_any (h : Hrt) (hf : Fit h) (a : Acc) {v : Int} (hv : U64 v) (w : World) : Calls Tryz.prog 13 #[.agg (hc h), .agg a.cells, .int .u64 v] w fun e w' => e = .returned (.agg (hc (fin h a v))) ∧ Below w.heap.size w w' := by
  obtain ⟨st, sg, sz, rg, ln, va, vl⟩ := a
  cases st with
  | true => rw [show fin h ⟨true, sg, sz, rg, ln, va, vl⟩ v = ord (finP (ord h) ln) from by simp [fin]]; exact finish_st h hf sg sz rg ln va vl v w
  | false =>
    by_cases h1 : 1 ≤ rg
    · by_cases h2 : rg ≤ 31
      · obtain ⟨n, rfl⟩ := Int.eq_ofNat_of_zero_le (show 0 ≤ rg by omega)
        rw [show fin h ⟨false, sg, sz, n, ln, va, vl⟩ v = ord (finX (finP (ord h) ln) n (extV v sz sg)) from by simp [fin, h1, h2]]
        exact finish_ld h hf sg sz ln va vl v hv (by omega) (by omega) w
      · rw [show fin h ⟨false, sg, sz, rg, ln, va, vl⟩ v = ord (finP (ord h) ln) from by simp [fin, h2]]; exact finish_hi h hf sg sz rg ln va vl v h1 h2 w
    · rw [show fin h ⟨false, sg, sz, rg, ln, va, vl⟩ v = ord (finP (ord h) ln) from by simp [fin, h1]]; exact finish_lo h hf sg sz rg ln va vl v h1 w
end Go.Proofs.YtidiojhefjhojaaGreat.Hart
end
section
namespace Go.Proofs.YtidiojhefjhojaaGreat.Hart
open Go Go.RowKit Go.Proofs.YtidiojhefjhojaaGreat.Step Go.Proofs.YtidiojhefjhojaaGreat.Enc Go.Proofs.YtidiojhefjhojaaGreat.Kn
set_option linter.unusedVariables false
set_option linter.unusedSimpArgs false
set_option maxRecDepth 100000
theorem xup_twice (x : Nat → Int) (n : Nat) (a b : Int) : xup (xup x n a) n b = xup x n b := by
  funext k
  unfold xup
  split <;> rfl
theorem wrap_L {L : Int} (hL : L = 2 ∨ L = 4) : IntKind.u64.wrap L = L := IntWalk.u64_in _ (by omega)
theorem even_pc (p L : Int) (hL : L = 2 ∨ L = 4) : IntKind.u64.wrap (p / 2 * 2 + L) / 2 * 2 = IntKind.u64.wrap (p / 2 * 2 + L) := by
  rw [IntKind.wrap_u64]
  rcases hL with rfl | rfl <;> omega
theorem ord_pc (h : Hrt) (x : Nat → Int) (L : Int) (hL : L = 2 ∨ L = 4) : ord { ord h with x := x, pc := IntKind.u64.wrap ((ord h).pc + IntKind.u64.wrap L) } = { ord h with x := xup x 0 0, pc := IntKind.u64.wrap ((ord h).pc + L) } := by
  rw [wrap_L hL]
  have e1 := even_pc h.pc L hL
  have e2 : h.sepc / 2 * 2 / 2 * 2 = h.sepc / 2 * 2 := by omega
  have e3 : (h.stvec / 4 * 4 + h.stvec % 2) / 4 * 4 + (h.stvec / 4 * 4 + h.stvec % 2) % 2 = h.stvec / 4 * 4 + h.stvec % 2 := by omega
  unfold ord
  dsimp only
  rw [e1, e2, e3, msk_msk, msk_msk]
theorem fin_ld (h : Hrt) (sg : Bool) (sz L va vl v : Int) (nd : Nat) (hn : nd < 32) (hL : L = 2 ∨ L = 4) : fin h ⟨false, sg, sz, nd, L, va, vl⟩ v = { ord h with x := xup (xup (ord h).x nd (extV v sz sg)) 0 0, pc := IntKind.u64.wrap ((ord h).pc + L) } := by
  unfold fin
  dsimp only
  by_cases h0 : nd = 0
  · subst h0
    rw [if_neg (by simp)]
    unfold finP
    rw [show ({ ord h with pc := IntKind.u64.wrap ((ord h).pc + IntKind.u64.wrap L) } : Hrt) = { ord h with x := (ord h).x, pc := IntKind.u64.wrap ((ord h).pc + IntKind.u64.wrap L) } from rfl, ord_pc h _ L hL, xup_twice]
  · rw [if_pos ⟨rfl, by omega, by omega⟩]
    unfold finX finP
    exact ord_pc h _ L hL
theorem fin_st (h : Hrt) (sg : Bool) (sz rg L va vl v : Int) (hL : L = 2 ∨ L = 4) : fin h ⟨true, sg, sz, rg, L, va, vl⟩ v = { ord h with x := xup (ord h).x 0 0, pc := IntKind.u64.wrap ((ord h).pc + L) } := by
  unfold fin
  dsimp only
  rw [if_neg (by simp)]
  unfold finP
  exact ord_pc h (ord h).x L hL
end Go.Proofs.YtidiojhefjhojaaGreat.Hart
end
