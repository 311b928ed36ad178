/- Parts of the walks and laws for the claim: Mc, McB, Tab; no conditions beyond the theorems' own. -/
import Derived.Test.YthkodjkkcgdmfaaGreatT7
section
namespace Go.Proofs.YthkodjkkcgdmfaaGreat.Hart
open Go Go.RowKit Go.Proofs.YthkodjkkcgdmfaaGreat.Step Go.Proofs.YthkodjkkcgdmfaaGreat.Enc Go.Proofs.YthkodjkkcgdmfaaGreat.Kn
open Go.Proofs.YthkodjkkcgdmfaaGreat.Mem (Ram Grow hasB wholeB num wr)
set_option linter.unusedVariables false
set_option linter.unusedSimpArgs false
set_option maxRecDepth 100000
abbrev TC : TypeId := 129
theorem pl_pc : Step.plainT Tryz.prog 36 = true := by kernel_rfl
theorem pl_ps : Step.plainT Tryz.prog 82 = true := by kernel_rfl
theorem pl_pm : Step.plainT Tryz.prog 37 = true := by kernel_rfl
/-- The cells of a core. -/
def ccells (gm : Nat) (tv : Value) (root vmid done : Int) (km : Value) : Array Value := #[.pointer (some ⟨gm, 0, none⟩), tv, .int .u64 root, .int .i64 vmid, .int .u32 done, .int .i32 0, .int .u32 0, km]
/-- What belongs to a core besides its memory: it stands in G, and goes by what is not turned there. -/
structure Rest (G : Nat → Prop) (T : World → Prop) : Prop where
  keep : ∀ w w' S, T w → Mod S w w' → (∀ k, G k → ¬ S k) → T w'
/-- A core that runs: its block, its memory, what belongs to it. -/
structure Mc (w : World) (gc gm : Nat) (tv : Value) (root vmid : Int) (km : Value) (base : Int) (n : Nat) (mem : Nat → Int) (F G : Nat → Prop) (T : World → Prop) : Prop where
  core : Blk w gc (ccells gm tv root vmid 1 km) TC
  ram : Ram w gm base n mem F
  rest : Rest G T
  tlb : T w
  nF : ¬ F gc
  nG : ¬ G gc
  fg : ∀ k, F k → ¬ G k
  bnd : ∀ k, G k → k < w.heap.size
/-- A step of it. -/
structure Sy (w : World) (gs : Nat) (s : Stp) (gm : Nat) (tv : Value) (root vmid : Int) (km : Value) (base : Int) (n : Nat) (mem : Nat → Int) (F G : Nat → Prop) (T : World → Prop) : Prop where
  step : Blk w gs (sc s) TS
  mc : Mc w s.gc gm tv root vmid km base n mem F G T
  nF : ¬ F gs
  nG : ¬ G gs
  ne : gs ≠ s.gc
section
variable {w w' : World} {gs gm n : Nat} {s s' : Stp} {tv km : Value} {root vmid base : Int} {mem mem' : Nat → Int} {F G : Nat → Prop} {T : World → Prop}
theorem Mc.mod {gc : Nat} {S : Nat → Prop} (h : Mc w gc gm tv root vmid km base n mem F G T) (m : Mod S w w') (h1 : ¬ S gc) (h2 : ∀ k, F k → ¬ S k) (h3 : ∀ k, G k → ¬ S k) : Mc w' gc gm tv root vmid km base n mem F G T :=
  ⟨h.core.mod m h1, h.ram.mod m h2, h.rest, h.rest.keep _ _ _ h.tlb m h3, h.nF, h.nG, h.fg, fun k hk => Nat.lt_of_lt_of_le (h.bnd k hk) m.size⟩
theorem Mc.below {gc : Nat} (h : Mc w gc gm tv root vmid km base n mem F G T) (b : Below w.heap.size w w') : Mc w' gc gm tv root vmid km base n mem F G T := h.mod (Mod.of_below b Nil) (fun h => h) (fun _ _ h => h) (fun _ _ h => h)
theorem Sy.below (h : Sy w gs s gm tv root vmid km base n mem F G T) (b : Below w.heap.size w w') : Sy w' gs s gm tv root vmid km base n mem F G T := ⟨h.step.below b, h.mc.below b, h.nF, h.nG, h.ne⟩
theorem Sy.set (h : Sy w gs s gm tv root vmid km base n mem F G T) (nb : Blk w' gs (sc s') TS) (m : Mod (One gs) w w') (hg : s'.gc = s.gc) : Sy w' gs s' gm tv root vmid km base n mem F G T :=
  ⟨nb, by rw [hg]; exact h.mc.mod m (fun e => h.ne (e : s.gc = gs).symm) (fun k hk e => h.nF ((e : k = gs) ▸ hk)) (fun k hk e => h.nG ((e : k = gs) ▸ hk)), h.nF, h.nG, by rw [hg]; exact h.ne⟩
theorem Sy.wrote (h : Sy w gs s gm tv root vmid km base n mem F G T) (r : Ram w' gm base n mem' (Grow F w w')) (m : Mod F w w') : Sy w' gs s gm tv root vmid km base n mem' (Grow F w w') G T :=
  ⟨h.step.mod m h.nF, ⟨h.mc.core.mod m h.mc.nF, r, h.mc.rest, h.mc.rest.keep _ _ _ h.mc.tlb m fun k hk hf => h.mc.fg k hf hk, fun hg => hg.elim h.mc.nF fun e => by have := h.mc.core.lt; omega, h.mc.nG, fun k hk hg => hk.elim (fun hf => h.mc.fg k hf hg) fun e => by have := h.mc.bnd k hg; omega, fun k hk => Nat.lt_of_lt_of_le (h.mc.bnd k hk) m.size⟩,
    fun hg => hg.elim h.nF fun e => by have := h.step.lt; omega, h.nG, h.ne⟩
end
section
variable {gm : Nat} {tv : Value} {root vmid done : Int} {km : Value}
theorem cc_m : (ccells gm tv root vmid done km)[0]? = some (.pointer (some ⟨gm, 0, none⟩)) := rfl
theorem cc_root : (ccells gm tv root vmid done km)[2]? = some (.int .u64 root) := rfl
theorem cc_kinds : (ccells gm tv root vmid done km)[7]? = some km := rfl
end
set_option maxHeartbeats 2000000 in
theorem go_off {W : World} {g : Nat} {cs : Array Value} {T : TypeId} {satp : Int} (hB : Blk W g cs T) (h3 : cs[3]? = some (.int .u64 satp)) (hs : satp / 1152921504606846976 = 0) (h0 : 0 ≤ satp) (va a : Int) :
    Calls Tryz.prog 151 #[.pointer (some ⟨g, 0, none⟩), .int .u64 va, .int .i64 a] W fun e w' => e = .returned (.tuple #[.int .u64 va, .int .i64 0]) ∧ Below W.heap.size W w' := by
  have c3 := (hB.cell 3).trans h3
  have HB := Lib.hid (Below.refl _ _ : Below W.heap.size W W)
  go_enter Tryz.func151, Tryz.ntmps151
  go_wp2
  refine bodyPost_ret (results_tmp2 rfl _ _ _) rfl ?_
  exact ⟨rfl, HB.out⟩
set_option maxHeartbeats 2000000 in
theorem second_off {W : World} {g gm : Nat} {s : Stp} {tv km : Value} {vmid done : Int} (hb : Blk W g (sc s) TS) (hc : Blk W s.gc (ccells gm tv 0 vmid done km) TC) (gpa a : Int) :
    Calls Tryz.prog 150 #[.pointer (some ⟨g, 0, none⟩), .int .u64 gpa, .int .i64 a] W fun e w' => e = .returned (.tuple #[.int .u64 gpa, .int .i64 0]) ∧ Below W.heap.size W w' := by
  have HB := Lib.hid (Below.refl _ _ : Below W.heap.size W W)
  have ST := Lib.hid (Kn.start (S := One g) hb rfl)
  have HC := Lib.hid hc
  clear hb hc
  go_enter Tryz.func150, Tryz.ntmps150
  go_wp2_with (first
    | ((with_reducible refine Step.gate_load (t := 36) rfl ?_); refine Step.load ST.out.at0 rfl rfl rfl pl_pc (sv_ok _ (by decide)) ?_; simp only [sv_c])
    | ((with_reducible refine Step.gate_load (t := 22) rfl ?_); refine Step.load HC.out rfl rfl rfl pl_u64 cc_root ?_))
  refine bodyPost_ret (results_tmp2 rfl _ _ _) rfl ?_
  exact ⟨rfl, HB.out⟩
theorem zero_ev : (Tryz.prog.info? 46).bind (·.zero) = some (.agg #[.int .i64 0, .int .i64 0, .int .u64 0, .int .u64 0, .bool false, .bool false]) := by kernel_rfl
theorem pl_fn : Step.plainT Tryz.prog 197 = true := by kernel_rfl
theorem results3 {P : Program} {fn : Func} {a b c : Tmp} (h : fn.results = #[.tmp a, .tmp b, .tmp c]) (tmps : Array Value) (w : World) : (results fn tmps).run P w = .ok (.tuple #[tmps.getD a undef, tmps.getD b undef, tmps.getD c undef]) w := by
  simp [results, h, go_sem, Result.andThen]
set_option maxHeartbeats 8000000 in
theorem reach_true {W : World} {g gm n : Nat} {s : Stp} {tv km : Value} {vmid done base : Int} {mem : Nat → Int} {F : Nat → Prop} (hb : Blk W g (sc s) TS) (hc : Blk W s.gc (ccells gm tv 0 vmid done km) TC) (hne : g ≠ s.gc) (hram : Ram W gm base n mem F) (hF : ¬ F g)
    (hs : s.was.satp / 1152921504606846976 = 0) (hs0 : U64 s.was.satp) {va size : Int} (hva : U64 va) (hsz : size < 9223372036854775808) (hh : hasB base n va size = true) (a : Int) :
    Calls Tryz.prog 127 #[.pointer (some ⟨g, 0, none⟩), .int .u64 va, .int .i64 size, .int .i64 a] W fun e w' => e = .returned (.tuple #[.int .u64 va, .int .u64 va, .bool true]) ∧ Below W.heap.size W w' := by
  have HH := Lib.hid (fun (W' : World) (m : Mod Step.Nil W W') => by
    have h := Mem.has_any (hram.mod m fun k hk e => e) va size hva.out hsz
    rw [hh] at h
    exact h)
  have HS := Lib.hid hs
  have HS0 := Lib.hid hs0.out.1
  have HN := Lib.hid (show ¬ One g s.gc from fun e => hne (e : s.gc = g).symm)
  have HC := Lib.hid hc
  have HB := Lib.hid hb
  have ST := Lib.hid (Kn.nil (S := Step.Nil) (W := W))
  clear hb hc hne hram hF hs hs0 hva hsz hh
  go_enter Tryz.func127, Tryz.ntmps127
  go_wp2_with (first
    | ((with_reducible refine Step.gate_box (t := 82) rfl ?_); refine Step.fresh (cs := #[.pointer (some ⟨g, 0, none⟩)]) (T := 82) rfl ?hr ?_; (case hr => first | (go_simp; done) | (go_simp; rfl)); intro g4 w1 b hg hb; replace ST := Lib.hid (ST.out.made b hg hb); clear b hb; clear hg)
    | ((with_reducible refine Step.gate_alloc (t := 46) rfl ?_); refine Step.freshAlloc rfl rfl (alloc_agg zero_ev) ?_; intro g11 w2 b hg hb; replace ST := Lib.hid (ST.out.made b hg hb); clear b hb hg)
    | ((with_reducible refine Step.gate_store (t := 46) rfl ?_); refine Step.storeAll (vs := #[.int .i64 3, .int .i64 a, .int .u64 va, .int .u64 0, .bool false, .bool false]) ST.out.at0 rfl rfl rfl rfl rfl size_ev rfl rfl ?_; intro w3 nb m; replace ST := Lib.hid (ST.out.set0 nb m); clear nb m)
    | ((with_reducible refine Sq.region (id := 2) (I := fun X => Kn _ _ X _) ?hm1 20 ST.out.drew ?hp1 ?hs1); (case hm1 => rfl); (case hp1 => kernel_rfl); intro ops K hops hK; clear hops; dsimp only [List.take]; (repeat (first | (refine Sq.seq_move rfl rfl ?_; simp only [Act.put, Act.eval, Array.getD_eq_getD_getElem?, List.getElem?_toArray, List.getElem?_cons_zero, List.getElem?_cons_succ, Option.getD_some, List.setIfInBounds_toArray, List.set_cons_zero, List.set_cons_succ]) | (refine Sq.seq_check rfl rfl rfl ?_; simp only [Act.put, Act.eval, Array.getD_eq_getD_getElem?, List.getElem?_toArray, List.getElem?_cons_zero, List.getElem?_cons_succ, Option.getD_some, List.setIfInBounds_toArray, List.set_cons_zero, List.set_cons_succ]) | (refine Sq.seq_load (t := 82) (fun X hX => hX.at1) (Sq.wanted_none rfl) rfl rfl pl_ps rfl ?_; simp only [Act.put, Act.eval, Array.getD_eq_getD_getElem?, List.getElem?_toArray, List.getElem?_cons_zero, List.getElem?_cons_succ, Option.getD_some, List.setIfInBounds_toArray, List.set_cons_zero, List.set_cons_succ]) | (refine Sq.seq_load (t := 22) (fun X hX => hX.stood HB.out id) (Sq.wanted_none rfl) rfl rfl pl_u64 (sv_ok _ (by decide)) ?_; simp only [Act.put, Act.eval, Array.getD_eq_getD_getElem?, List.getElem?_toArray, List.getElem?_cons_zero, List.getElem?_cons_succ, Option.getD_some, List.setIfInBounds_toArray, List.set_cons_zero, List.set_cons_succ, sv_dry, sv_now, sv_k, sv_fn, sv_rd, sv_rs1, sv_rs2, sv_imm, sv_sz, sv_sg, sv_long, sv_bits, sv_ek, sv_ea, sv_eva, sv_egpa, sv_ewalk, sv_ewrote, sv_was_pc, sv_was_user, sv_was_on, sv_was_spie, sv_was_spp, sv_was_sum, sv_was_mxr, sv_was_rsv, sv_was_stvec, sv_was_sscr, sv_was_sepc, sv_was_scause, sv_was_stval, sv_was_sie, sv_was_sip, sv_was_satp, sv_was_resv, sv_h_pc, sv_h_user, sv_h_on, sv_h_spie, sv_h_spp, sv_h_sum, sv_h_mxr, sv_h_rsv, sv_h_stvec, sv_h_sscr, sv_h_sepc, sv_h_scause, sv_h_stval, sv_h_sie, sv_h_sip, sv_h_satp, sv_h_resv, sv_c]) | (refine Sq.seq_load (t := 3) (fun X hX => hX.stood HB.out id) (Sq.wanted_none rfl) rfl rfl pl_int (sv_ok _ (by decide)) ?_; simp only [Act.put, Act.eval, Array.getD_eq_getD_getElem?, List.getElem?_toArray, List.getElem?_cons_zero, List.getElem?_cons_succ, Option.getD_some, List.setIfInBounds_toArray, List.set_cons_zero, List.set_cons_succ, sv_dry, sv_now, sv_k, sv_fn, sv_rd, sv_rs1, sv_rs2, sv_imm, sv_sz, sv_sg, sv_long, sv_bits, sv_ek, sv_ea, sv_eva, sv_egpa, sv_ewalk, sv_ewrote, sv_was_pc, sv_was_user, sv_was_on, sv_was_spie, sv_was_spp, sv_was_sum, sv_was_mxr, sv_was_rsv, sv_was_stvec, sv_was_sscr, sv_was_sepc, sv_was_scause, sv_was_stval, sv_was_sie, sv_was_sip, sv_was_satp, sv_was_resv, sv_h_pc, sv_h_user, sv_h_on, sv_h_spie, sv_h_spp, sv_h_sum, sv_h_mxr, sv_h_rsv, sv_h_stvec, sv_h_sscr, sv_h_sepc, sv_h_scause, sv_h_stval, sv_h_sie, sv_h_sip, sv_h_satp, sv_h_resv, sv_c]) | (refine Sq.seq_load (t := 4) (fun X hX => hX.stood HB.out id) (Sq.wanted_none rfl) rfl rfl pl_bool (sv_ok _ (by decide)) ?_; simp only [Act.put, Act.eval, Array.getD_eq_getD_getElem?, List.getElem?_toArray, List.getElem?_cons_zero, List.getElem?_cons_succ, Option.getD_some, List.setIfInBounds_toArray, List.set_cons_zero, List.set_cons_succ, sv_dry, sv_now, sv_k, sv_fn, sv_rd, sv_rs1, sv_rs2, sv_imm, sv_sz, sv_sg, sv_long, sv_bits, sv_ek, sv_ea, sv_eva, sv_egpa, sv_ewalk, sv_ewrote, sv_was_pc, sv_was_user, sv_was_on, sv_was_spie, sv_was_spp, sv_was_sum, sv_was_mxr, sv_was_rsv, sv_was_stvec, sv_was_sscr, sv_was_sepc, sv_was_scause, sv_was_stval, sv_was_sie, sv_was_sip, sv_was_satp, sv_was_resv, sv_h_pc, sv_h_user, sv_h_on, sv_h_spie, sv_h_spp, sv_h_sum, sv_h_mxr, sv_h_rsv, sv_h_stvec, sv_h_sscr, sv_h_sepc, sv_h_scause, sv_h_stval, sv_h_sie, sv_h_sip, sv_h_satp, sv_h_resv, sv_c]) | (refine' Sq.seq_pure rfl (fun X => _) _; rotate_left; (first | (go_simp; done) | (go_simp; rfl)); simp only [Act.put, Act.eval, Array.getD_eq_getD_getElem?, List.getElem?_toArray, List.getElem?_cons_zero, List.getElem?_cons_succ, Option.getD_some, List.setIfInBounds_toArray, List.set_cons_zero, List.set_cons_succ]))); refine Sq.seq_nil ?_; refine hK.out _ fun w1 hk => ?_; clear hK; replace ST := Lib.hid hk; clear hk; dsimp only [List.drop])
    | ((with_reducible refine Step.gate_box (t := 201) rfl ?_); refine Step.fresh (cs := #[.nilFunc, .int .u64 0, .int .i64 0, .int .u64 s.was.satp, .int .u64 0, .bool s.was.user, .bool s.was.sum, .bool s.was.mxr]) (T := 201) rfl ?hr ?_; (case hr => first | (go_simp; done) | (go_simp; rfl)); intro g12 w1 b hg hb; replace ST := Lib.hid (ST.out.made b hg hb); clear b hg hb)
    | ((with_reducible refine Step.gate_store (t := 197) rfl ?_); refine Step.store ST.out.at0 rfl rfl rfl rfl rfl pl_fn rfl rfl ?_; intro w3 nb m; replace ST := Lib.hid (ST.out.set0 nb m); clear nb m)
    | (go_at_call 151; (with_reducible refine (go_off ST.out.at0 rfl HS.out HS0.out _ _).mono ?_); rintro e w' ⟨rfl, hb⟩; replace ST := Lib.hid (ST.out.call hb); clear hb)
    | ((with_reducible refine Step.gate_load (t := 82) rfl ?_); refine Step.load ST.out.at2 rfl rfl rfl pl_ps rfl ?_)
    | ((with_reducible refine Step.gate_load (t := 4) rfl ?_); refine Step.load ST.out.at1 rfl rfl rfl pl_bool rfl ?_)
    | (go_at_call 150; (with_reducible refine (second_off (ST.out.stood HB.out id) (ST.out.stood HC.out id) _ _).mono ?_); rintro e w' ⟨rfl, hb⟩; replace ST := Lib.hid (ST.out.call hb); clear hb)
    | ((with_reducible refine Step.gate_load (t := 82) rfl ?_); refine Step.loadG ST.out.at2 rfl rfl rfl pl_ps rfl ?_)
    | ((with_reducible refine Step.gate_load (t := 36) rfl ?_); refine Step.loadG (ST.out.stood HB.out id) rfl rfl rfl pl_pc (sv_ok _ (by decide)) ?_; simp only [sv_c])
    | ((with_reducible refine Step.gate_load (t := 37) rfl ?_); refine Step.loadG (ST.out.stood HC.out id) rfl rfl rfl pl_pm cc_m ?_)
    | (go_at_call 65; (with_reducible refine (HH.out _ (ST.out.mod)).mono ?_); rintro e w' ⟨rfl, hb⟩; replace ST := Lib.hid (ST.out.call (Enc.below_drawn hb)); clear hb))
  refine bodyPost_ret (results3 rfl _ _) rfl ?_
  exact ⟨rfl, ST.out.below⟩
end Go.Proofs.YthkodjkkcgdmfaaGreat.Hart
end
section
namespace Go.Proofs.YthkodjkkcgdmfaaGreat.Hart
open Go Go.RowKit Go.Proofs.YthkodjkkcgdmfaaGreat.Step Go.Proofs.YthkodjkkcgdmfaaGreat.Enc Go.Proofs.YthkodjkkcgdmfaaGreat.Kn
open Go.Proofs.YthkodjkkcgdmfaaGreat.Mem (Ram Grow hasB wholeB num wr)
set_option linter.unusedVariables false
set_option linter.unusedSimpArgs false
set_option maxRecDepth 100000
/-- What a part of a step leaves: the step, the memory; what else stood is as it was. -/
def Out (W w' : World) (gs : Nat) (s' : Stp) (gm : Nat) (tv : Value) (root vmid : Int) (km : Value) (base : Int) (n : Nat) (mem' : Nat → Int) (F G : Nat → Prop) (T : World → Prop) : Prop :=
  ∃ F', Sy w' gs s' gm tv root vmid km base n mem' F' G T ∧ Mod (fun k => k = gs ∨ F k) W w' ∧ ∀ k, F' k → F k ∨ W.heap.size ≤ k
section
variable {W w w' : World} {gs gm n : Nat} {s s' : Stp} {tv km : Value} {root vmid base : Int} {mem mem' : Nat → Int} {F G : Nat → Prop} {T : World → Prop}
theorem Sy.out (h : Sy W gs s gm tv root vmid km base n mem F G T) : Out W W gs s gm tv root vmid km base n mem F G T := ⟨F, h, Mod.refl _ _, fun k h => .inl h⟩
theorem Out.set (h : Out W w gs s gm tv root vmid km base n mem F G T) (nb : Blk w' gs (sc s') TS) (m : Mod (One gs) w w') (hg : s'.gc = s.gc) : Out W w' gs s' gm tv root vmid km base n mem F G T := by
  obtain ⟨F', a, b, c⟩ := h
  exact ⟨F', a.set nb m hg, b.trans_new m fun k _ e => .inl e, c⟩
theorem Out.below (h : Out W w gs s gm tv root vmid km base n mem F G T) (b : Below w.heap.size w w') : Out W w' gs s gm tv root vmid km base n mem F G T := by
  obtain ⟨F', a, m, c⟩ := h
  exact ⟨F', a.below b, m.trans (Mod.of_below b _), c⟩
theorem Out.ahead (h : Out w w' gs s gm tv root vmid km base n mem F G T) (b : Below W.heap.size W w) : Out W w' gs s gm tv root vmid km base n mem F G T := by
  obtain ⟨F', a, m, c⟩ := h
  exact ⟨F', a, (Mod.of_below b _).trans m, fun k hk => (c k hk).imp id fun h => Nat.le_trans b.size h⟩
theorem Out.after (h : Out w w' gs s' gm tv root vmid km base n mem' F G T) (h0 : Sy W gs s gm tv root vmid km base n mem F G T) (nb : Mod (One gs) W w) : Out W w' gs s' gm tv root vmid km base n mem' F G T := by
  obtain ⟨F', a, m, c⟩ := h
  exact ⟨F', a, (nb.mono fun k _ e => .inl e).trans m, fun k hk => (c k hk).imp id fun h => Nat.le_trans nb.size h⟩
theorem Out.wrote (h0 : Sy w gs s gm tv root vmid km base n mem F G T) (hm : Mod (fun k => k = gs ∨ F k) W w) (r : Ram w' gm base n mem' (Grow F w w')) (m : Mod F w w') : Out W w' gs s gm tv root vmid km base n mem' F G T :=
  ⟨_, h0.wrote r m, hm.trans_new m fun k _ e => .inr e, fun k hk => hk.imp id fun e => Nat.le_trans hm.size e.1⟩
end
def storeP (s : Stp) (gpa : Int) : Stp := { s with ewrote := true, egpa := gpa }
theorem read_zz {W : World} {h n : Nat} {base : Int} {mem : Nat → Int} {F : Nat → Prop} (r : Ram W h base n mem F) (addr z : Int) (k : Nat) (hz : z = k) (ha : 0 ≤ addr ∧ addr < 18446744073709551616) (h1 : wholeB k = true) (h2 : hasB base n addr k = true) :
    Calls Tryz.prog 132 #[.pointer (some ⟨h, 0, none⟩), .int .u64 addr, .int .i64 z] W fun e W' => e = .returned (.tuple #[.int .u64 (num mem (addr - base).toNat k), .bool true]) ∧ ∃ k, W' = W.drewN k := by
  subst hz; exact Mem.read_yes r addr k ha h1 h2
set_option maxHeartbeats 4000000 in
theorem load_yes {W : World} {gs gm n : Nat} {s : Stp} {tv km : Value} {vmid base : Int} {mem : Nat → Int} {F G : Nat → Prop} {T : World → Prop} (h : Sy W gs s gm tv 0 vmid km base n mem F G T) (hs : s.was.satp / 1152921504606846976 = 0) (hs0 : U64 s.was.satp) {va z : Int} {k : Nat} (hz : z = k) (hva : U64 va) (hw : wholeB k = true) (hh : hasB base n va k = true) (a : Int) : Calls Tryz.prog 107 #[.pointer (some ⟨gs, 0, none⟩), .int .u64 va, .int .i64 z, .int .i64 a] W fun e w' => e = .returned (.tuple #[.int .u64 (num mem (va - base).toNat k), .bool true]) ∧ Below W.heap.size W w' := by
  have TR := Lib.hid (fun (W' : World) (b : Below W.heap.size W W') => reach_true (h.below b).step (h.below b).mc.core (h.below b).ne (h.below b).mc.ram (h.below b).nF hs hs0 hva (size := z) (by have := of_decide_eq_true hw; omega) (by rw [hz]; exact hh) a)
  have TD := Lib.hid (fun (W' : World) (b : Below W.heap.size W W') => read_zz (h.below b).mc.ram va z k hz hva.out hw hh)
  have HY := Lib.hid h
  have HB := Lib.hid (Below.refl _ _ : Below W.heap.size W W)
  clear h hs hs0 hz hva hw hh
  go_enter Tryz.func107, Tryz.ntmps107
  go_wp2_with (first
    | ((with_reducible refine Step.gate_load (t := 22) rfl ?_); refine Step.load (HY.out.below HB.out).step rfl rfl rfl pl_u64 (sv_ok _ (by decide)) ?_; simp only [sv_dry, sv_now, sv_k, sv_fn, sv_rd, sv_rs1, sv_rs2, sv_imm, sv_sz, sv_sg, sv_long, sv_bits, sv_ek, sv_ea, sv_eva, sv_egpa, sv_ewalk, sv_ewrote, sv_was_pc, sv_was_user, sv_was_on, sv_was_spie, sv_was_spp, sv_was_sum, sv_was_mxr, sv_was_rsv, sv_was_stvec, sv_was_sscr, sv_was_sepc, sv_was_scause, sv_was_stval, sv_was_sie, sv_was_sip, sv_was_satp, sv_was_resv, sv_h_pc, sv_h_user, sv_h_on, sv_h_spie, sv_h_spp, sv_h_sum, sv_h_mxr, sv_h_rsv, sv_h_stvec, sv_h_sscr, sv_h_sepc, sv_h_scause, sv_h_stval, sv_h_sie, sv_h_sip, sv_h_satp, sv_h_resv, sv_c])
    | ((with_reducible refine Step.gate_load (t := 3) rfl ?_); refine Step.load (HY.out.below HB.out).step rfl rfl rfl pl_int (sv_ok _ (by decide)) ?_; simp only [sv_dry, sv_now, sv_k, sv_fn, sv_rd, sv_rs1, sv_rs2, sv_imm, sv_sz, sv_sg, sv_long, sv_bits, sv_ek, sv_ea, sv_eva, sv_egpa, sv_ewalk, sv_ewrote, sv_was_pc, sv_was_user, sv_was_on, sv_was_spie, sv_was_spp, sv_was_sum, sv_was_mxr, sv_was_rsv, sv_was_stvec, sv_was_sscr, sv_was_sepc, sv_was_scause, sv_was_stval, sv_was_sie, sv_was_sip, sv_was_satp, sv_was_resv, sv_h_pc, sv_h_user, sv_h_on, sv_h_spie, sv_h_spp, sv_h_sum, sv_h_mxr, sv_h_rsv, sv_h_stvec, sv_h_sscr, sv_h_sepc, sv_h_scause, sv_h_stval, sv_h_sie, sv_h_sip, sv_h_satp, sv_h_resv, sv_c])
    | ((with_reducible refine Step.gate_load (t := 4) rfl ?_); refine Step.load (HY.out.below HB.out).step rfl rfl rfl pl_bool (sv_ok _ (by decide)) ?_; simp only [sv_dry, sv_now, sv_k, sv_fn, sv_rd, sv_rs1, sv_rs2, sv_imm, sv_sz, sv_sg, sv_long, sv_bits, sv_ek, sv_ea, sv_eva, sv_egpa, sv_ewalk, sv_ewrote, sv_was_pc, sv_was_user, sv_was_on, sv_was_spie, sv_was_spp, sv_was_sum, sv_was_mxr, sv_was_rsv, sv_was_stvec, sv_was_sscr, sv_was_sepc, sv_was_scause, sv_was_stval, sv_was_sie, sv_was_sip, sv_was_satp, sv_was_resv, sv_h_pc, sv_h_user, sv_h_on, sv_h_spie, sv_h_spp, sv_h_sum, sv_h_mxr, sv_h_rsv, sv_h_stvec, sv_h_sscr, sv_h_sepc, sv_h_scause, sv_h_stval, sv_h_sie, sv_h_sip, sv_h_satp, sv_h_resv, sv_c])
    | ((with_reducible refine Step.gate_load (t := 36) rfl ?_); refine Step.load (HY.out.below HB.out).step rfl rfl rfl pl_pc (sv_ok _ (by decide)) ?_; simp only [sv_c])
    | ((with_reducible refine Step.gate_load (t := 37) rfl ?_); refine Step.load (HY.out.below HB.out).mc.core rfl rfl rfl pl_pm cc_m ?_)
    | (go_at_call 127; (with_reducible refine (TR.out _ HB.out).mono ?_); rintro e w' ⟨rfl, hb⟩; replace HB := Lib.hid (below_below HB.out hb); clear hb)
    | (go_at_call 132; (with_reducible refine (TD.out _ HB.out).mono ?_); rintro e w' ⟨rfl, hb⟩; replace HB := Lib.hid (below_below HB.out (Enc.below_drawn hb)); clear hb))
  refine bodyPost_ret (results_tmp2 rfl _ _ _) rfl ?_
  exact ⟨rfl, HB.out⟩
set_option maxHeartbeats 4000000 in
theorem store_any {W : World} {gs gm n : Nat} {s : Stp} {tv km : Value} {vmid base : Int} {mem : Nat → Int} {F G : Nat → Prop} {T : World → Prop} (h : Sy W gs s gm tv 0 vmid km base n mem F G T) (hdry : s.dry = false) {k : Nat} (hz : s.sz = k) {pa gpa v : Int} (hpa : U64 pa) (hv : U64 v) (hw : wholeB k = true) (hh : hasB base n pa k = true) :
    Calls Tryz.prog 128 #[.pointer (some ⟨gs, 0, none⟩), .int .u64 pa, .int .u64 gpa, .int .u64 v] W fun e w' => e = .returned (.tuple #[]) ∧ Out W w' gs (storeP s gpa) gm tv 0 vmid km base n (wr mem (pa - base).toNat k v) F G T := by
  have TW := Lib.hid (fun (W' : World) (s' : Stp) (y : Sy W' gs s' gm tv 0 vmid km base n mem F G T) => Mem.write_yes y.mc.ram pa v k hpa.out hv.out hw hh)
  have HY := Lib.hid h
  have ST := Lib.hid (Kn.start (S := One gs) h.step rfl)
  clear h hpa hv hw hh
  go_enter Tryz.func128, Tryz.ntmps128
  go_wp2_with (first
    | ((with_reducible refine Step.gate_store (t := 22) rfl ?_); refine Step.store ST.out.at0 rfl rfl rfl rfl rfl pl_u64 rfl rfl ?_; intro w3 nb m; simp [go_sem, sst_dry, sst_now, sst_k, sst_fn, sst_rd, sst_rs1, sst_rs2, sst_imm, sst_sz, sst_sg, sst_long, sst_bits, sst_ek, sst_ea, sst_eva, sst_egpa, sst_ewalk, sst_ewrote, sst_h_pc, sst_h_user, sst_h_on, sst_h_spie, sst_h_spp, sst_h_sum, sst_h_mxr, sst_h_rsv, sst_h_stvec, sst_h_sscr, sst_h_sepc, sst_h_scause, sst_h_stval, sst_h_sie, sst_h_sip, sst_h_satp, sst_h_resv, sst_h_x0] at nb; replace ST := Lib.hid (ST.out.set0 nb m); clear nb m)
    | ((with_reducible refine Step.gate_store (t := 3) rfl ?_); refine Step.store ST.out.at0 rfl rfl rfl rfl rfl pl_int rfl rfl ?_; intro w3 nb m; simp [go_sem, sst_dry, sst_now, sst_k, sst_fn, sst_rd, sst_rs1, sst_rs2, sst_imm, sst_sz, sst_sg, sst_long, sst_bits, sst_ek, sst_ea, sst_eva, sst_egpa, sst_ewalk, sst_ewrote, sst_h_pc, sst_h_user, sst_h_on, sst_h_spie, sst_h_spp, sst_h_sum, sst_h_mxr, sst_h_rsv, sst_h_stvec, sst_h_sscr, sst_h_sepc, sst_h_scause, sst_h_stval, sst_h_sie, sst_h_sip, sst_h_satp, sst_h_resv, sst_h_x0] at nb; replace ST := Lib.hid (ST.out.set0 nb m); clear nb m)
    | ((with_reducible refine Step.gate_store (t := 4) rfl ?_); refine Step.store ST.out.at0 rfl rfl rfl rfl rfl pl_bool rfl rfl ?_; intro w3 nb m; simp [go_sem, sst_dry, sst_now, sst_k, sst_fn, sst_rd, sst_rs1, sst_rs2, sst_imm, sst_sz, sst_sg, sst_long, sst_bits, sst_ek, sst_ea, sst_eva, sst_egpa, sst_ewalk, sst_ewrote, sst_h_pc, sst_h_user, sst_h_on, sst_h_spie, sst_h_spp, sst_h_sum, sst_h_mxr, sst_h_rsv, sst_h_stvec, sst_h_sscr, sst_h_sepc, sst_h_scause, sst_h_stval, sst_h_sie, sst_h_sip, sst_h_satp, sst_h_resv, sst_h_x0] at nb; replace ST := Lib.hid (ST.out.set0 nb m); clear nb m)
    | ((with_reducible refine Step.gate_load (t := 22) rfl ?_); refine Step.load ST.out.at0 rfl rfl rfl pl_u64 (sv_ok _ (by decide)) ?_; simp only [sv_dry, sv_now, sv_k, sv_fn, sv_rd, sv_rs1, sv_rs2, sv_imm, sv_sz, sv_sg, sv_long, sv_bits, sv_ek, sv_ea, sv_eva, sv_egpa, sv_ewalk, sv_ewrote, sv_was_pc, sv_was_user, sv_was_on, sv_was_spie, sv_was_spp, sv_was_sum, sv_was_mxr, sv_was_rsv, sv_was_stvec, sv_was_sscr, sv_was_sepc, sv_was_scause, sv_was_stval, sv_was_sie, sv_was_sip, sv_was_satp, sv_was_resv, sv_h_pc, sv_h_user, sv_h_on, sv_h_spie, sv_h_spp, sv_h_sum, sv_h_mxr, sv_h_rsv, sv_h_stvec, sv_h_sscr, sv_h_sepc, sv_h_scause, sv_h_stval, sv_h_sie, sv_h_sip, sv_h_satp, sv_h_resv, sv_c, hdry])
    | ((with_reducible refine Step.gate_load (t := 3) rfl ?_); refine Step.load ST.out.at0 rfl rfl rfl pl_int (sv_ok _ (by decide)) ?_; simp only [sv_dry, sv_now, sv_k, sv_fn, sv_rd, sv_rs1, sv_rs2, sv_imm, sv_sz, sv_sg, sv_long, sv_bits, sv_ek, sv_ea, sv_eva, sv_egpa, sv_ewalk, sv_ewrote, sv_was_pc, sv_was_user, sv_was_on, sv_was_spie, sv_was_spp, sv_was_sum, sv_was_mxr, sv_was_rsv, sv_was_stvec, sv_was_sscr, sv_was_sepc, sv_was_scause, sv_was_stval, sv_was_sie, sv_was_sip, sv_was_satp, sv_was_resv, sv_h_pc, sv_h_user, sv_h_on, sv_h_spie, sv_h_spp, sv_h_sum, sv_h_mxr, sv_h_rsv, sv_h_stvec, sv_h_sscr, sv_h_sepc, sv_h_scause, sv_h_stval, sv_h_sie, sv_h_sip, sv_h_satp, sv_h_resv, sv_c, hdry])
    | ((with_reducible refine Step.gate_load (t := 4) rfl ?_); refine Step.load ST.out.at0 rfl rfl rfl pl_bool (sv_ok _ (by decide)) ?_; simp only [sv_dry, sv_now, sv_k, sv_fn, sv_rd, sv_rs1, sv_rs2, sv_imm, sv_sz, sv_sg, sv_long, sv_bits, sv_ek, sv_ea, sv_eva, sv_egpa, sv_ewalk, sv_ewrote, sv_was_pc, sv_was_user, sv_was_on, sv_was_spie, sv_was_spp, sv_was_sum, sv_was_mxr, sv_was_rsv, sv_was_stvec, sv_was_sscr, sv_was_sepc, sv_was_scause, sv_was_stval, sv_was_sie, sv_was_sip, sv_was_satp, sv_was_resv, sv_h_pc, sv_h_user, sv_h_on, sv_h_spie, sv_h_spp, sv_h_sum, sv_h_mxr, sv_h_rsv, sv_h_stvec, sv_h_sscr, sv_h_sepc, sv_h_scause, sv_h_stval, sv_h_sie, sv_h_sip, sv_h_satp, sv_h_resv, sv_c, hdry])
    | ((with_reducible refine Sq.region (id := 2) (I := fun X => Kn _ _ X _) ?hm1 14 ST.out.drew ?hp1 ?hs1); (case hm1 => rfl); (case hp1 => kernel_rfl); intro ops K hops hK; clear hops; dsimp only [List.take]; (repeat (first | (refine Sq.seq_move rfl rfl ?_; simp only [Act.put, Act.eval, Array.getD_eq_getD_getElem?, List.getElem?_toArray, List.getElem?_cons_zero, List.getElem?_cons_succ, Option.getD_some, List.setIfInBounds_toArray, List.set_cons_zero, List.set_cons_succ]) | (refine Sq.seq_check rfl rfl rfl ?_; simp only [Act.put, Act.eval, Array.getD_eq_getD_getElem?, List.getElem?_toArray, List.getElem?_cons_zero, List.getElem?_cons_succ, Option.getD_some, List.setIfInBounds_toArray, List.set_cons_zero, List.set_cons_succ]) | (refine Sq.seq_load (t := 22) (fun X hX => hX.at0) (Sq.wanted_none rfl) rfl rfl pl_u64 (sv_ok _ (by decide)) ?_; simp only [Act.put, Act.eval, Array.getD_eq_getD_getElem?, List.getElem?_toArray, List.getElem?_cons_zero, List.getElem?_cons_succ, Option.getD_some, List.setIfInBounds_toArray, List.set_cons_zero, List.set_cons_succ, sv_dry, sv_now, sv_k, sv_fn, sv_rd, sv_rs1, sv_rs2, sv_imm, sv_sz, sv_sg, sv_long, sv_bits, sv_ek, sv_ea, sv_eva, sv_egpa, sv_ewalk, sv_ewrote, sv_was_pc, sv_was_user, sv_was_on, sv_was_spie, sv_was_spp, sv_was_sum, sv_was_mxr, sv_was_rsv, sv_was_stvec, sv_was_sscr, sv_was_sepc, sv_was_scause, sv_was_stval, sv_was_sie, sv_was_sip, sv_was_satp, sv_was_resv, sv_h_pc, sv_h_user, sv_h_on, sv_h_spie, sv_h_spp, sv_h_sum, sv_h_mxr, sv_h_rsv, sv_h_stvec, sv_h_sscr, sv_h_sepc, sv_h_scause, sv_h_stval, sv_h_sie, sv_h_sip, sv_h_satp, sv_h_resv, sv_c, hz]) | (refine Sq.seq_load (t := 3) (fun X hX => hX.at0) (Sq.wanted_none rfl) rfl rfl pl_int (sv_ok _ (by decide)) ?_; simp only [Act.put, Act.eval, Array.getD_eq_getD_getElem?, List.getElem?_toArray, List.getElem?_cons_zero, List.getElem?_cons_succ, Option.getD_some, List.setIfInBounds_toArray, List.set_cons_zero, List.set_cons_succ, sv_dry, sv_now, sv_k, sv_fn, sv_rd, sv_rs1, sv_rs2, sv_imm, sv_sz, sv_sg, sv_long, sv_bits, sv_ek, sv_ea, sv_eva, sv_egpa, sv_ewalk, sv_ewrote, sv_was_pc, sv_was_user, sv_was_on, sv_was_spie, sv_was_spp, sv_was_sum, sv_was_mxr, sv_was_rsv, sv_was_stvec, sv_was_sscr, sv_was_sepc, sv_was_scause, sv_was_stval, sv_was_sie, sv_was_sip, sv_was_satp, sv_was_resv, sv_h_pc, sv_h_user, sv_h_on, sv_h_spie, sv_h_spp, sv_h_sum, sv_h_mxr, sv_h_rsv, sv_h_stvec, sv_h_sscr, sv_h_sepc, sv_h_scause, sv_h_stval, sv_h_sie, sv_h_sip, sv_h_satp, sv_h_resv, sv_c, hz]) | (refine Sq.seq_load (t := 4) (fun X hX => hX.at0) (Sq.wanted_none rfl) rfl rfl pl_bool (sv_ok _ (by decide)) ?_; simp only [Act.put, Act.eval, Array.getD_eq_getD_getElem?, List.getElem?_toArray, List.getElem?_cons_zero, List.getElem?_cons_succ, Option.getD_some, List.setIfInBounds_toArray, List.set_cons_zero, List.set_cons_succ, sv_dry, sv_now, sv_k, sv_fn, sv_rd, sv_rs1, sv_rs2, sv_imm, sv_sz, sv_sg, sv_long, sv_bits, sv_ek, sv_ea, sv_eva, sv_egpa, sv_ewalk, sv_ewrote, sv_was_pc, sv_was_user, sv_was_on, sv_was_spie, sv_was_spp, sv_was_sum, sv_was_mxr, sv_was_rsv, sv_was_stvec, sv_was_sscr, sv_was_sepc, sv_was_scause, sv_was_stval, sv_was_sie, sv_was_sip, sv_was_satp, sv_was_resv, sv_h_pc, sv_h_user, sv_h_on, sv_h_spie, sv_h_spp, sv_h_sum, sv_h_mxr, sv_h_rsv, sv_h_stvec, sv_h_sscr, sv_h_sepc, sv_h_scause, sv_h_stval, sv_h_sie, sv_h_sip, sv_h_satp, sv_h_resv, sv_c, hz]) | (refine Sq.seq_load (t := 36) (fun X hX => hX.at0) (Sq.wanted_none rfl) rfl rfl pl_pc (sv_ok _ (by decide)) ?_; simp only [Act.put, Act.eval, Array.getD_eq_getD_getElem?, List.getElem?_toArray, List.getElem?_cons_zero, List.getElem?_cons_succ, Option.getD_some, List.setIfInBounds_toArray, List.set_cons_zero, List.set_cons_succ, sv_c]) | (refine Sq.seq_load (t := 37) (fun X hX => (HY.out.set (s' := storeP s gpa) hX.at0 hX.mod rfl).mc.core) (Sq.wanted_none rfl) rfl rfl pl_pm cc_m ?_; simp only [Act.put, Act.eval, Array.getD_eq_getD_getElem?, List.getElem?_toArray, List.getElem?_cons_zero, List.getElem?_cons_succ, Option.getD_some, List.setIfInBounds_toArray, List.set_cons_zero, List.set_cons_succ]) | (refine' Sq.seq_pure rfl (fun X => _) _; rotate_left; (first | (go_simp; done) | (go_simp; rfl)); simp only [Act.put, Act.eval, Array.getD_eq_getD_getElem?, List.getElem?_toArray, List.getElem?_cons_zero, List.getElem?_cons_succ, Option.getD_some, List.setIfInBounds_toArray, List.set_cons_zero, List.set_cons_succ]))); refine Sq.seq_nil ?_; refine hK.out _ fun w1 hk => ?_; clear hK; have HO := Lib.hid (HY.out.set (s' := storeP s gpa) hk.at0 hk.mod rfl); have HP := Lib.hid hk.mod; clear hk; dsimp only [List.drop])
    | (go_at_call 46; (with_reducible refine (TW.out _ _ HO.out).mono ?_); rintro e w' ⟨rfl, hr, hm⟩; have HR := Lib.hid hr; have HM := Lib.hid hm; clear hr hm))
  all_goals (first | go_ret | go_end0 | refine bodyPost_ret (results_none rfl _ _ _) rfl ?_)
  exact ⟨rfl, Out.wrote HO.out (HP.out.mono fun k _ e => .inl e) HR.out HM.out⟩
end Go.Proofs.YthkodjkkcgdmfaaGreat.Hart
end
section
namespace Go.Proofs.YthkodjkkcgdmfaaGreat.Tab
open Go Go.RowKit Go.Proofs.YthkodjkkcgdmfaaGreat.Mem
set_option linter.unusedVariables false
set_option linter.unusedSimpArgs false
/-- A word of 64 bits. -/
def U64 (v : Int) : Prop := 0 ≤ v ∧ v < 18446744073709551616
/-- The low byte of an entry, and its bits. -/
def lo (e : Int) : Nat := e.toNat % 256
def bt (e : Int) (i : Nat) : Bool := (lo e).testBit i
theorem or_add {a b : Int} (s : Nat) (ha : U64 a) (hd : a % (2 ^ s : Nat) = 0) (hb : 0 ≤ b ∧ b < (2 ^ s : Nat)) (hb2 : b < 18446744073709551616) : bits .or .u64 a b = a + b := by
  obtain ⟨a1, a2⟩ := ha
  obtain ⟨b1, b2⟩ := hb
  rw [u64_or _ _ a1 a2 b1 hb2]
  obtain ⟨A, rfl⟩ := Int.eq_ofNat_of_zero_le a1
  obtain ⟨B, rfl⟩ := Int.eq_ofNat_of_zero_le b1
  simp only [Int.toNat_natCast]
  have hA : A = 2 ^ s * (A / 2 ^ s) := by
    have : A % 2 ^ s = 0 := by omega
    have := Nat.div_add_mod A (2 ^ s)
    omega
  have : A ||| B = A + B := by
    rw [hA]
    exact (Nat.two_pow_add_eq_or_of_lt (by omega) _).symm
  omega
/-- Is an entry wrong; does it point to a table; the page that it names. -/
def wrongB (e : Int) : Bool := !bt e 0 || (bt e 2 && !bt e 1) || decide (18014398509481984 ≤ e)
def ptr (e : Int) : Bool := !bt e 1 && !bt e 3
def pn (e : Int) : Int := e / 1024 % 17592186044416
/-- A leaf whose page is no multiple of its level's. -/
def odd (e : Int) (l : Nat) : Bool := decide (pn e % (2 ^ (9 * l) : Nat) ≠ 0)
/-- The address that a leaf makes. -/
def at_ (e : Int) (l : Nat) (addr : Int) : Int := pn e * 4096 + addr % (2 ^ (12 + 9 * l) : Nat)
/-- The place in a table. -/
def ix (addr : Int) (l : Nat) : Int := addr / (2 ^ (12 + 9 * l) : Nat) % 512
/-- What a walk comes to: a read that failed, a fault of the tables, a leaf and its level. -/
inductive Res where | bus (f t i : Int) | page | leaf (e : Int) (l : Nat)
def down (rd : Int → Int → Int × Int) (addr : Int) : Nat → Int → Res
  | 0, _ => .page
  | l + 1, t =>
    if (rd t (ix addr l)).2 ≠ 0 then .bus (rd t (ix addr l)).2 t (ix addr l) else if wrongB (rd t (ix addr l)).1 = true then .page
    else if ptr (rd t (ix addr l)).1 = true then down rd addr l (pn (rd t (ix addr l)).1) else if odd (rd t (ix addr l)).1 l = true then .page else .leaf (rd t (ix addr l)).1 l
/-- A table's entry in a memory. -/
def phys (base : Int) (n : Nat) (mem : Nat → Int) (t i : Int) : Int × Int :=
  if 4503599627370496 ≤ t then (0, 3) else if hasB base n (t * 4096 + 8 * i) 8 = true then (num mem (t * 4096 + 8 * i - base).toNat 8, 0) else (0, 3)
/-- Does a leaf of the second stage let an access; what it allows. -/
def lets2 (e a : Int) : Bool := bt e 4 && bt e 6 && (if a = 1 then bt e 3 else if a = 2 then bt e 1 else if a = 3 then bt e 2 && bt e 7 else false)
def perm (e : Int) : Int := (if bt e 1 = true then 2 else 0) + (if bt e 2 = true ∧ bt e 7 = true then 4 else 0) + (if bt e 3 = true then 8 else 0)
def guestOf (gpa a : Int) : Res → Int × Int × Int
  | .bus f _ _ => (0, 0, f)
  | .page => (0, 0, 2)
  | .leaf e l => if lets2 e a = true then (at_ e l gpa, perm e, 0) else (0, 0, 2)
/-- The second stage. -/
def guest (base : Int) (n : Nat) (mem : Nat → Int) (root gpa a : Int) : Int × Int × Int :=
  if root = 0 then (gpa, 14, 0) else if 549755813888 ≤ gpa then (0, 0, 2) else guestOf gpa a (down (phys base n mem) gpa 3 root)
/-- Does a leaf of the first stage let an access? -/
def lets1 (user sum mxr : Bool) (e a : Int) : Bool :=
  !((user && !bt e 4) || (!user && bt e 4 && (decide (a = 1) || !sum))) && bt e 6 && (if a = 1 then bt e 3 else if a = 2 then bt e 1 || (mxr && bt e 3) else if a = 3 then bt e 2 && bt e 7 else false)
/-- What a translation comes to: the physical and the guest-physical address, the fault, whether it was an entry's. -/
structure Place where
  pa : Int
  gpa : Int
  fault : Int
  walk : Bool
def second (base : Int) (n : Nat) (mem : Nat → Int) (root g a : Int) : Place :=
  if (guest base n mem root g a).2.2 ≠ 0 then ⟨0, g, (guest base n mem root g a).2.2, false⟩ else ⟨(guest base n mem root g a).1, g, 0, false⟩
/-- Is a virtual address one of 39 bits, extended? -/
def canon (va : Int) : Bool := decide (va < 274877906944) || decide (18446743798831644672 ≤ va)
def firstOf (user sum mxr : Bool) (va a : Int) : Res → Place ⊕ Int
  | .bus f t i => .inl ⟨0, t * 4096 + 8 * i, f, true⟩
  | .page => .inl ⟨0, 0, 1, false⟩
  | .leaf e l => if lets1 user sum mxr e a = true then .inr (at_ e l va) else .inl ⟨0, 0, 1, false⟩
/-- The first stage's answer: a fault and where, or the guest-physical address. -/
def first (rd : Int → Int → Int × Int) (satp : Int) (user sum mxr : Bool) (va a : Int) : Place ⊕ Int :=
  if satp / 1152921504606846976 = 0 then .inr va else if satp / 1152921504606846976 ≠ 8 then .inl ⟨0, 0, 1, false⟩
  else if canon va = false then .inl ⟨0, 0, 1, false⟩ else firstOf user sum mxr va a (down rd va 3 (satp % 17592186044416))
end Go.Proofs.YthkodjkkcgdmfaaGreat.Tab
end
