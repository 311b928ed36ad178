/- Parts of the walks and laws for the claim: HrtC, Kn, Mid, Stp, Seq, SeqB, SeqE, SeqF, HrtE; no conditions beyond the theorems' own. -/
import Derived.Deep.MidRow
import Derived.Lib.Hide
import Derived.Test.YtidiojhefjhojaaGreatQ1
section
namespace Go.Proofs.YtidiojhefjhojaaGreat.Hart
open Go Go.RowKit Go.Proofs.YtidiojhefjhojaaGreat.Step Go.Proofs.YtidiojhefjhojaaGreat.Enc
set_option linter.unusedVariables false
set_option linter.unusedSimpArgs false
set_option maxRecDepth 100000
def hv (h : Hrt) (i : Nat) : Value := (hc h).getD i undef
theorem hv_ok (h : Hrt) {i : Nat} (hi : i < 49) : (hc h)[i]? = some (hv h i) := by
  have : i < (hc h).size := hi
  simp [hv, Array.getD_eq_getD_getElem?, Array.getElem?_eq_getElem this]
theorem hv_pc (h : Hrt) : hv h 32 = .int .u64 h.pc := rfl
theorem hv_x0 (h : Hrt) : hv h 0 = .int .u64 (h.x 0) := rfl
theorem hv_user (h : Hrt) : hv h 33 = .bool h.user := rfl
theorem hv_on (h : Hrt) : hv h 34 = .bool h.on := rfl
theorem hv_spie (h : Hrt) : hv h 35 = .bool h.spie := rfl
theorem hv_spp (h : Hrt) : hv h 36 = .bool h.spp := rfl
theorem hv_sum (h : Hrt) : hv h 37 = .bool h.sum := rfl
theorem hv_mxr (h : Hrt) : hv h 38 = .bool h.mxr := rfl
theorem hv_rsv (h : Hrt) : hv h 39 = .bool h.rsv := rfl
theorem hv_stvec (h : Hrt) : hv h 40 = .int .u64 h.stvec := rfl
theorem hv_sscr (h : Hrt) : hv h 41 = .int .u64 h.sscr := rfl
theorem hv_sepc (h : Hrt) : hv h 42 = .int .u64 h.sepc := rfl
theorem hv_scause (h : Hrt) : hv h 43 = .int .u64 h.scause := rfl
theorem hv_stval (h : Hrt) : hv h 44 = .int .u64 h.stval := rfl
theorem hv_sie (h : Hrt) : hv h 45 = .int .u64 h.sie := rfl
theorem hv_sip (h : Hrt) : hv h 46 = .int .u64 h.sip := rfl
theorem hv_satp (h : Hrt) : hv h 47 = .int .u64 h.satp := rfl
theorem hv_resv (h : Hrt) : hv h 48 = .int .u64 h.resv := rfl
def zh : Hrt := ⟨fun _ => 0, 0, false, false, false, false, false, false, false, 0, 0, 0, 0, 0, 0, 0, 0, 0⟩
theorem zero_hart : (Tryz.prog.info? 27).bind (·.zero) = some (.agg (hc zh)) := by kernel_rfl
theorem size_hart (h : Hrt) : (Tryz.prog.info? 27).map (·.size) = some (hc h).size := (by kernel_rfl : (Tryz.prog.info? 27).map (·.size) = some 49)
theorem pl_u64 : Step.plainT Tryz.prog 22 = true := by kernel_rfl
/-- The numbers are of 64 bits. -/
structure Fit (h : Hrt) : Prop where
  x : ∀ i, i < 32 → U64 (h.x i)
  pc : U64 h.pc
  stvec : U64 h.stvec
  sscr : U64 h.sscr
  sepc : U64 h.sepc
  scause : U64 h.scause
  stval : U64 h.stval
  sie : U64 h.sie
  sip : U64 h.sip
  satp : U64 h.satp
  resv : U64 h.resv
def msk (v : Int) : Int := bits .and .u64 v 546
/-- A hart in order. -/
def ord (h : Hrt) : Hrt := { h with x := xup h.x 0 0, pc := h.pc / 2 * 2, sepc := h.sepc / 2 * 2, stvec := h.stvec / 4 * 4 + h.stvec % 2, sie := msk h.sie, sip := msk h.sip }
set_option maxHeartbeats 2000000 in
theorem order_any (h : Hrt) (hf : Fit h) (w : World) : Calls Tryz.prog 43 #[.agg (hc h)] w fun e w' => e = .returned (.agg (hc (ord h))) ∧ Below w.heap.size w w' := by
  have e1 := u_an1 hf.pc
  have e2 := u_an1 hf.sepc
  have e3 := u_an2 hf.stvec
  have e4 : bits .and .u64 h.sie 546 = msk h.sie := rfl
  have e5 : bits .and .u64 h.sip 546 = msk h.sip := rfl
  clear hf
  go_enter Tryz.func43, Tryz.ntmps43
  go_wp2_with (first
    | ((with_reducible refine Step.gate_box (t := 27) rfl ?_); refine Step.fresh (cs := hc h) (T := 27) rfl ?hr ?_; (case hr => first | (go_simp; done)); intro g1 w1 b hg hb; have ST := Lib.hid (S1.made b hg hb); clear b hg hb)
    | ((with_reducible refine Step.gate_alloc (t := 27) rfl ?_); refine Step.freshAlloc rfl rfl (alloc_agg zero_hart) ?_; intro g2 w2 b hg hb; replace ST := Lib.hid (ST.out.more b hg hb); clear b hg hb)
    | ((with_reducible refine Step.gate_store (t := 22) rfl ?_); refine Step.store ST.out.one rfl rfl rfl rfl rfl pl_u64 rfl rfl ?_; intro w3 nb m; simp [go_sem, set_x0, set_pc, set_user, set_on, set_spie, set_spp, set_sum, set_mxr, set_rsv, set_stvec, set_sscr, set_sepc, set_scause, set_stval, set_sie, set_sip, set_satp, set_resv] at nb; replace ST := Lib.hid (ST.out.set1 nb m); clear nb m)
    | ((with_reducible refine Step.gate_load (t := 22) rfl ?_); refine Step.load ST.out.one rfl rfl rfl pl_u64 (hv_ok _ (by decide)) ?_; simp only [hv_x0, hv_pc, hv_user, hv_on, hv_spie, hv_spp, hv_sum, hv_mxr, hv_rsv, hv_stvec, hv_sscr, hv_sepc, hv_scause, hv_stval, hv_sie, hv_sip, hv_satp, hv_resv])
    | ((with_reducible refine Step.gate_load (t := 27) rfl ?_); refine Step.loadAll ST.out.one rfl rfl rfl Tryz.underlying27 rfl (size_hart _) ?_)
    | ((with_reducible refine Step.gate_store (t := 27) rfl ?_); refine Step.storeAll ST.out.two rfl rfl rfl rfl rfl (size_hart _) rfl (hc_all _) ?_; intro w3 nb m; replace ST := Lib.hid (ST.out.set2 nb m); clear nb m))
  refine bodyPost_ret (results_row rfl _ _ g2 _ _ _ rfl ST.out.two Tryz.underlying27 rfl (size_hart _)) rfl ⟨rfl, ST.out.below⟩
set_option maxHeartbeats 2000000 in
theorem write_none (h : Hrt) (hf : Fit h) (v : Int) (w : World) : Calls Tryz.prog 35 #[.agg (hc h), .int .i64 0, .int .u64 v] w fun e w' => e = .returned (.tuple #[.agg (hc (ord h)), .bool false]) ∧ Below w.heap.size w w' := by
  have T0 := Lib.hid (order_any h hf)
  have hu : (ord h).user = h.user := rfl
  clear hf
  generalize ord h = h2 at *
  cases hus : h.user
  all_goals rw [hus] at hu
  all_goals clear hus
  all_goals (
    go_enter Tryz.func35, Tryz.ntmps35
    go_wp2_with (first
      | (go_at_call 43; (with_reducible refine (T0.out _).mono ?_); rintro e w' ⟨rfl, hb⟩; replace ST := Lib.hid (ST.out.call hb); clear hb)
      | ((with_reducible refine Step.gate_box (t := 27) rfl ?_); refine Step.fresh (cs := hc h) (T := 27) rfl ?hr ?_; (case hr => first | (go_simp; done)); intro g1 w1 b hg hb; have ST := Lib.hid (S1.made b hg hb); clear b hg hb)
      | ((with_reducible refine Step.gate_alloc (t := 27) rfl ?_); refine Step.freshAlloc rfl rfl (alloc_agg zero_hart) ?_; intro g2 w2 b hg hb; replace ST := Lib.hid (ST.out.more b hg hb); clear b hg hb)
      | ((with_reducible refine Step.gate_load (t := 4) rfl ?_); refine Step.load ST.out.one rfl rfl rfl pl_bool (hv_ok _ (by decide)) ?_; simp only [hv_x0, hv_pc, hv_user, hv_on, hv_spie, hv_spp, hv_sum, hv_mxr, hv_rsv, hv_stvec, hv_sscr, hv_sepc, hv_scause, hv_stval, hv_sie, hv_sip, hv_satp, hv_resv])
      | ((with_reducible refine Step.gate_store (t := 27) rfl ?_); refine Step.storeAll ST.out.one rfl rfl rfl rfl rfl (size_hart _) rfl (hc_all _) ?_; intro w3 nb m; replace ST := Lib.hid (ST.out.set1 nb m); clear nb m)
      | ((with_reducible refine Step.gate_load (t := 27) rfl ?_); refine Step.loadAll ST.out.one rfl rfl rfl Tryz.underlying27 rfl (size_hart _) ?_)
      | ((with_reducible refine Step.gate_store (t := 27) rfl ?_); refine Step.storeAll ST.out.two rfl rfl rfl rfl rfl (size_hart _) rfl (hc_all _) ?_; intro w3 nb m; replace ST := Lib.hid (ST.out.set2 nb m); clear nb m))
    all_goals refine bodyPost_ret (results_row_tmp rfl _ _ g2 _ _ _ rfl ST.out.two Tryz.underlying27 rfl (size_hart _)) rfl ⟨rfl, ST.out.below⟩)
end Go.Proofs.YtidiojhefjhojaaGreat.Hart
end
section
namespace Go.Proofs.YtidiojhefjhojaaGreat.Kn
open Go Go.RowKit Go.Proofs.YtidiojhefjhojaaGreat.Step
set_option linter.unusedVariables false
set_option linter.unusedSimpArgs false
/-- From W to w only what S names was turned; the listed blocks are as they say, each of them new or named by S. -/
structure Kn (S : Nat → Prop) (W w : World) (L : List (Nat × Array Value × TypeId)) : Prop where
  mod : Mod S W w
  blk : ∀ p ∈ L, Blk w p.1 p.2.1 p.2.2
  own : ∀ p ∈ L, p.1 < W.heap.size → S p.1
  nod : L.Pairwise fun p q => p.1 ≠ q.1
section
variable {S : Nat → Prop} {W w w' : World} {L : List (Nat × Array Value × TypeId)} {g : Nat} {c c' : Array Value} {T T' : TypeId}
theorem Kn.nil : Kn S W W [] := ⟨Mod.refl _ _, (fun _ h => nomatch h), (fun _ h => nomatch h), List.Pairwise.nil⟩
theorem Kn.start (b : Blk W g c T) (h : S g) : Kn S W W [(g, c, T)] := ⟨Mod.refl _ _, fun p hp => (by obtain rfl := List.mem_singleton.1 hp; exact b), fun p hp _ => (by obtain rfl := List.mem_singleton.1 hp; exact h), List.pairwise_singleton _ _⟩
theorem Kn.old (k : Kn S W w L) (b : Blk w g c T) (h : S g) (hn : ∀ p ∈ L, p.1 ≠ g) : Kn S W w ((g, c, T) :: L) :=
  ⟨k.mod, fun p hp => (by rcases List.mem_cons.1 hp with rfl | hp; exact b; exact k.blk p hp), fun p hp hl => (by rcases List.mem_cons.1 hp with rfl | hp; exact h; exact k.own p hp hl), List.Pairwise.cons (fun p hp e => hn p hp e.symm) k.nod⟩
theorem Kn.call (k : Kn S W w L) (hb : Below w.heap.size w w') : Kn S W w' L :=
  ⟨k.mod.trans (Mod.of_below hb _), fun p hp => (k.blk p hp).below hb, k.own, k.nod⟩
theorem Kn.drew (k : Kn S W w L) : Kn S W { w with drawn := w.drawn + 1 } L := k.call ⟨rfl, rfl, rfl, Nat.le_refl _, fun _ _ => rfl⟩
theorem Kn.made (k : Kn S W w L) (b : Blk w' g c T) (hg : w.heap.size ≤ g) (hb : Below w.heap.size w w') : Kn S W w' ((g, c, T) :: L) :=
  ⟨(k.call hb).mod, fun p hp => (by rcases List.mem_cons.1 hp with rfl | hp; exact b; exact (k.call hb).blk p hp), fun p hp hl => (by
    rcases List.mem_cons.1 hp with rfl | hp
    · have := k.mod.size; exact absurd hl (by show ¬ g < _; omega)
    · exact k.own p hp hl), List.Pairwise.cons (fun p hp e => by have := (k.blk p hp).lt; have e' : g = p.1 := e; omega) k.nod⟩
/-- A call turned what is not listed. -/
theorem Kn.turn {R : Nat → Prop} (k : Kn S W w L) (m : Mod R w w') (h1 : ∀ p ∈ L, ¬ R p.1) (h2 : ∀ i, i < W.heap.size → R i → S i) : Kn S W w' L :=
  ⟨k.mod.trans_new m h2, fun p hp => (k.blk p hp).mod m (h1 p hp), k.own, k.nod⟩
theorem Kn.set_at {A B : List (Nat × Array Value × TypeId)} (k : Kn S W w (A ++ (g, c, T) :: B)) (nb : Blk w' g c' T') (m : Mod (One g) w w') : Kn S W w' (A ++ (g, c', T') :: B) := by
  have hp := List.pairwise_append.1 k.nod
  have hB := List.pairwise_cons.1 hp.2.1
  have hmem : (g, c, T) ∈ A ++ (g, c, T) :: B := List.mem_append_right _ (List.mem_cons_self ..)
  refine ⟨k.mod.trans_new m fun i hi e => by obtain rfl := e; exact k.own _ hmem hi, fun p hq => ?_, fun p hq hl => ?_, ?_⟩
  · rcases List.mem_append.1 hq with h | h
    · exact (k.blk p (List.mem_append_left _ h)).mod m fun e => hp.2.2 p h (g, c, T) (List.mem_cons_self ..) e
    · rcases List.mem_cons.1 h with rfl | h
      · exact nb
      · exact (k.blk p (List.mem_append_right _ (List.mem_cons_of_mem _ h))).mod m fun e => hB.1 p h (e : p.1 = g).symm
  · rcases List.mem_append.1 hq with h | h
    · exact k.own p (List.mem_append_left _ h) hl
    · rcases List.mem_cons.1 h with rfl | h
      · exact k.own (g, c, T) hmem hl
      · exact k.own p (List.mem_append_right _ (List.mem_cons_of_mem _ h)) hl
  · refine List.pairwise_append.2 ⟨hp.1, List.pairwise_cons.2 ⟨hB.1, hB.2⟩, fun a ha b hb => ?_⟩
    rcases List.mem_cons.1 hb with rfl | hb
    · exact hp.2.2 a ha (g, c, T) (List.mem_cons_self ..)
    · exact hp.2.2 a ha b (List.mem_cons_of_mem _ hb)
theorem Kn.drop {p : Nat × Array Value × TypeId} (k : Kn S W w (p :: L)) : Kn S W w L := ⟨k.mod, fun q h => k.blk q (List.mem_cons_of_mem _ h), fun q h => k.own q (List.mem_cons_of_mem _ h), (List.pairwise_cons.1 k.nod).2⟩
theorem Kn.below (k : Kn Nil W w L) : Below W.heap.size W w := k.mod.below
/-- What stood there and is not named. -/
theorem Kn.stood {c : Array Value} (k : Kn S W w L) (b : Blk W g c T) (h : ¬ S g) : Blk w g c T := b.mod k.mod h
end
section
variable {S : Nat → Prop} {W w w' : World} {L : List (Nat × Array Value × TypeId)} {g : Nat} {c c' : Array Value} {T T' : TypeId}
theorem Kn.at0 (k : Kn S W w ((g, c, T) :: L)) : Blk w g c T := k.blk (g, c, T) (List.mem_cons_self ..)
theorem Kn.set0 (k : Kn S W w ((g, c, T) :: L)) (nb : Blk w' g c' T') (m : Mod (One g) w w') : Kn S W w' ((g, c', T') :: L) := Kn.set_at (A := []) k nb m
theorem Kn.at1 {p0 : Nat × Array Value × TypeId} (k : Kn S W w (p0 :: (g, c, T) :: L)) : Blk w g c T := k.blk (g, c, T) (List.mem_cons_of_mem _ (List.mem_cons_self ..))
theorem Kn.set1 {p0 : Nat × Array Value × TypeId} (k : Kn S W w (p0 :: (g, c, T) :: L)) (nb : Blk w' g c' T') (m : Mod (One g) w w') : Kn S W w' (p0 :: (g, c', T') :: L) := Kn.set_at (A := [p0]) k nb m
theorem Kn.at2 {p0 p1 : Nat × Array Value × TypeId} (k : Kn S W w (p0 :: p1 :: (g, c, T) :: L)) : Blk w g c T := k.blk (g, c, T) (List.mem_cons_of_mem _ (List.mem_cons_of_mem _ (List.mem_cons_self ..)))
theorem Kn.set2 {p0 p1 : Nat × Array Value × TypeId} (k : Kn S W w (p0 :: p1 :: (g, c, T) :: L)) (nb : Blk w' g c' T') (m : Mod (One g) w w') : Kn S W w' (p0 :: p1 :: (g, c', T') :: L) := Kn.set_at (A := [p0, p1]) k nb m
theorem Kn.at3 {p0 p1 p2 : Nat × Array Value × TypeId} (k : Kn S W w (p0 :: p1 :: p2 :: (g, c, T) :: L)) : Blk w g c T := k.blk (g, c, T) (List.mem_cons_of_mem _ (List.mem_cons_of_mem _ (List.mem_cons_of_mem _ (List.mem_cons_self ..))))
theorem Kn.at4 {p0 p1 p2 p3 : Nat × Array Value × TypeId} (k : Kn S W w (p0 :: p1 :: p2 :: p3 :: (g, c, T) :: L)) : Blk w g c T := k.blk (g, c, T) (List.mem_cons_of_mem _ (List.mem_cons_of_mem _ (List.mem_cons_of_mem _ (List.mem_cons_of_mem _ (List.mem_cons_self ..)))))
theorem Kn.at5 {p0 p1 p2 p3 p4 : Nat × Array Value × TypeId} (k : Kn S W w (p0 :: p1 :: p2 :: p3 :: p4 :: (g, c, T) :: L)) : Blk w g c T := k.blk (g, c, T) (List.mem_cons_of_mem _ (List.mem_cons_of_mem _ (List.mem_cons_of_mem _ (List.mem_cons_of_mem _ (List.mem_cons_of_mem _ (List.mem_cons_self ..))))))
end
end Go.Proofs.YtidiojhefjhojaaGreat.Kn
end
section
namespace Go.Proofs.YtidiojhefjhojaaGreat.Step
open Go Go.RowKit
set_option linter.unusedVariables false
set_option linter.unusedSimpArgs false
/-- Cells written one behind the other. -/
def lays : Array Value → Nat → List Value → Array Value
  | cs, _, [] => cs
  | cs, o, v :: r => lays (cs.setIfInBounds o v) (o + 1) r
theorem lays_list : ∀ (vs : List Value) (o : Nat) (cs : Array Value), o + vs.length ≤ cs.size → (lays cs o vs).toList = cs.toList.take o ++ (vs ++ cs.toList.drop (o + vs.length))
  | [], o, cs, _ => by simp [lays]
  | v :: r, o, cs, h => by
    have hl : o < cs.toList.length := by simp at h ⊢; omega
    have h1 := lays_list r (o + 1) (cs.setIfInBounds o v) (by simp at h ⊢; omega)
    show (lays (cs.setIfInBounds o v) (o + 1) r).toList = _
    rw [h1]
    simp only [Array.toList_setIfInBounds, List.length_cons]
    rw [List.take_set, List.drop_set, if_pos (by omega), List.take_succ_eq_append_getElem hl, List.set_append_right _ _ (by simp; omega)]
    simp [show o + 1 + r.length = o + (r.length + 1) by omega]
    have h2 : o - min o cs.size = 0 := by simp at hl; omega
    rw [h2]; rfl
theorem setCells_out (g : Nat) (T : TypeId) : ∀ (vs : List Value) (o : Nat) (cs : Array Value) (W : World), Blk W g cs T → Blk (W.setCells g o vs) g (lays cs o vs) T
  | [], _, _, _, h => h
  | v :: r, o, cs, W, h => by
    rw [World.setCells]
    exact setCells_out g T r (o + 1) _ _ (setCell_out W g o v cs T h)
theorem setCells_mod (g : Nat) : ∀ (vs : List Value) (o : Nat) (W : World), Mod (One g) W (W.setCells g o vs)
  | [], _, W => Mod.refl _ _
  | v :: r, o, W => by
    rw [World.setCells]
    exact (setCell_mod W g o v).trans (setCells_mod g r (o + 1) _)
section
variable {P : Program} {ops : Array Oper} {rest : List Oper} {o : Oper} {a : Act} {W : World} {Q : Exit → Act → World → Prop}
/-- A row within the block. -/
def Row (cs : Array Value) (k : Nat) (ds : Array Value) : Prop := ∀ j v, ds.toList[j]? = some v → cs[k + j]? = some v
theorem loadMid {t : TypeId} {x : Operand} {g k : Nat} {cs ds : Array Value} {T : TypeId} {d : TypeDesc} (hB : Blk W g cs T) (hg : o.guard = none) (ho : o.op = .load t x) (hx : a.eval x = .pointer (some ⟨g, k, none⟩)) (hr : Row cs k ds) (hu : P.underlying t = some d)
    (hd : d.isRow = true) (hi : (P.info? t).map (·.size) = some ds.size) (h : wpList P ops Q rest (a.put o.dst (.agg ds)) W) : wpList P ops Q (o :: rest) a W :=
  wpList_load_mid hg t x ho g k hx ds.toList d (fun j v hv => (hB.cell (k + j)).trans (hr j v hv)) hu hd (by simpa using hi) h
theorem storeMid {t : TypeId} {x y : Operand} {g k : Nat} {cs vs : Array Value} {T : TypeId} (hB : Blk W g cs T) (hg : o.guard = none) (ho : o.op = .store t x y) (hn : o.dst = none) (hx : a.eval x = .pointer (some ⟨g, k, none⟩)) (hy : a.eval y = .agg vs) (hi : (P.info? t).map (·.size) = some vs.size)
    (hs : Nat.ble (k + vs.size) cs.size = true) (h1 : vs.toList.all (·.oneCell') = true) (h : ∀ W', Blk W' g (lays cs k vs.toList) T → Mod (One g) W W' → wpList P ops Q rest a W') : wpList P ops Q (o :: rest) a W := by
  have hle := Nat.le_of_ble_eq_true hs
  refine wpList_store_mid hg t x y ho g k vs hx hy (fun j hj => ⟨?_, hB.frozen _⟩) hi (by rw [← Array.all_toList]; exact h1) ?_
  · rw [hB.cell, Array.getElem?_eq_getElem (by omega)]; rfl
  · rw [hn]; exact h _ (setCells_out g T _ k cs W hB) (setCells_mod g _ k W)
end
end Go.Proofs.YtidiojhefjhojaaGreat.Step
namespace Go.Proofs.YtidiojhefjhojaaGreat.Step
open Go Go.RowKit
set_option linter.unusedVariables false
set_option linter.unusedSimpArgs false
section
variable {P : Program} {ops : Array Oper} {rest : List Oper} {o : Oper} {a : Act} {W : World} {Q : Exit → Act → World → Prop}
/-- A cell is read, where the guard lets it. -/
theorem loadG {t : TypeId} {x : Operand} {g i : Nat} {cs : Array Value} {T : TypeId} {v : Value} (hB : Blk W g cs T) (hw : Region.wanted o (yielded ops a.tmps) = true) (ho : o.op = .load t x) (hx : a.eval x = .pointer (some ⟨g, i, none⟩)) (ht : plainT P t = true) (hv : cs[i]? = some v)
    (h : wpList P ops Q rest (a.put o.dst v) W) : wpList P ops Q (o :: rest) a W := by
  unfold wpList
  rw [if_pos hw]
  refine .inl ?_
  have := run_load1 (P := P) ht ((hB.cell i).trans hv)
  unfold Oper.wp
  simp [execOp, ho, hx, this, Result.andThen]
  exact h
end
end Go.Proofs.YtidiojhefjhojaaGreat.Step
end
section
namespace Go.Proofs.YtidiojhefjhojaaGreat.Hart
open Go Go.RowKit Go.Proofs.YtidiojhefjhojaaGreat.Step
set_option linter.unusedVariables false
set_option linter.unusedSimpArgs false
set_option maxRecDepth 100000
/-- The fields of a step. -/
structure Stp where
  gc : Nat
  was : Hrt
  h : Hrt
  dry : Bool
  now : Int
  k : Int
  fn : Int
  rd : Int
  rs1 : Int
  rs2 : Int
  imm : Int
  sz : Int
  sg : Bool
  long : Int
  bits : Int
  ek : Int
  ea : Int
  eva : Int
  egpa : Int
  ewalk : Bool
  ewrote : Bool
def sc (s : Stp) : Array Value := #[.pointer (some ⟨s.gc, 0, none⟩), .bool s.dry, .int .u64 s.now, .int .u64 (s.was.x 0), .int .u64 (s.was.x 1), .int .u64 (s.was.x 2), .int .u64 (s.was.x 3), .int .u64 (s.was.x 4), .int .u64 (s.was.x 5), .int .u64 (s.was.x 6), .int .u64 (s.was.x 7), .int .u64 (s.was.x 8), .int .u64 (s.was.x 9), .int .u64 (s.was.x 10), .int .u64 (s.was.x 11), .int .u64 (s.was.x 12), .int .u64 (s.was.x 13), .int .u64 (s.was.x 14), .int .u64 (s.was.x 15), .int .u64 (s.was.x 16), .int .u64 (s.was.x 17), .int .u64 (s.was.x 18), .int .u64 (s.was.x 19), .int .u64 (s.was.x 20), .int .u64 (s.was.x 21), .int .u64 (s.was.x 22), .int .u64 (s.was.x 23), .int .u64 (s.was.x 24), .int .u64 (s.was.x 25), .int .u64 (s.was.x 26), .int .u64 (s.was.x 27), .int .u64 (s.was.x 28), .int .u64 (s.was.x 29), .int .u64 (s.was.x 30), .int .u64 (s.was.x 31), .int .u64 s.was.pc, .bool s.was.user, .bool s.was.on, .bool s.was.spie, .bool s.was.spp, .bool s.was.sum, .bool s.was.mxr, .bool s.was.rsv, .int .u64 s.was.stvec, .int .u64 s.was.sscr, .int .u64 s.was.sepc, .int .u64 s.was.scause, .int .u64 s.was.stval, .int .u64 s.was.sie, .int .u64 s.was.sip, .int .u64 s.was.satp, .int .u64 s.was.resv, .int .u64 (s.h.x 0), .int .u64 (s.h.x 1), .int .u64 (s.h.x 2), .int .u64 (s.h.x 3), .int .u64 (s.h.x 4), .int .u64 (s.h.x 5), .int .u64 (s.h.x 6), .int .u64 (s.h.x 7), .int .u64 (s.h.x 8), .int .u64 (s.h.x 9), .int .u64 (s.h.x 10), .int .u64 (s.h.x 11), .int .u64 (s.h.x 12), .int .u64 (s.h.x 13), .int .u64 (s.h.x 14), .int .u64 (s.h.x 15), .int .u64 (s.h.x 16), .int .u64 (s.h.x 17), .int .u64 (s.h.x 18), .int .u64 (s.h.x 19), .int .u64 (s.h.x 20), .int .u64 (s.h.x 21), .int .u64 (s.h.x 22), .int .u64 (s.h.x 23), .int .u64 (s.h.x 24), .int .u64 (s.h.x 25), .int .u64 (s.h.x 26), .int .u64 (s.h.x 27), .int .u64 (s.h.x 28), .int .u64 (s.h.x 29), .int .u64 (s.h.x 30), .int .u64 (s.h.x 31), .int .u64 s.h.pc, .bool s.h.user, .bool s.h.on, .bool s.h.spie, .bool s.h.spp, .bool s.h.sum, .bool s.h.mxr, .bool s.h.rsv, .int .u64 s.h.stvec, .int .u64 s.h.sscr, .int .u64 s.h.sepc, .int .u64 s.h.scause, .int .u64 s.h.stval, .int .u64 s.h.sie, .int .u64 s.h.sip, .int .u64 s.h.satp, .int .u64 s.h.resv, .int .i64 s.k, .int .i64 s.fn, .int .i64 s.rd, .int .i64 s.rs1, .int .i64 s.rs2, .int .i64 s.imm, .int .i64 s.sz, .bool s.sg, .int .u64 s.long, .int .u64 s.bits, .int .i64 s.ek, .int .i64 s.ea, .int .u64 s.eva, .int .u64 s.egpa, .bool s.ewalk, .bool s.ewrote]
theorem sc_size (s : Stp) : (sc s).size = 117 := rfl
def sv (s : Stp) (i : Nat) : Value := (sc s).getD i undef
theorem sv_ok (s : Stp) {i : Nat} (hi : i < 117) : (sc s)[i]? = some (sv s i) := by
  have : i < (sc s).size := hi
  simp [sv, Array.getD_eq_getD_getElem?, Array.getElem?_eq_getElem this]
theorem sv_c (s : Stp) : sv s 0 = .pointer (some ⟨s.gc, 0, none⟩) := rfl
theorem sv_dry (s : Stp) : sv s 1 = .bool s.dry := rfl
theorem sst_dry (s : Stp) (v : Bool) : (sc s).setIfInBounds 1 (.bool v) = sc { s with dry := v } := rfl
theorem sv_now (s : Stp) : sv s 2 = .int .u64 s.now := rfl
theorem sst_now (s : Stp) (v : Int) : (sc s).setIfInBounds 2 (.int .u64 v) = sc { s with now := v } := rfl
theorem sv_k (s : Stp) : sv s 101 = .int .i64 s.k := rfl
theorem sst_k (s : Stp) (v : Int) : (sc s).setIfInBounds 101 (.int .i64 v) = sc { s with k := v } := rfl
theorem sv_fn (s : Stp) : sv s 102 = .int .i64 s.fn := rfl
theorem sst_fn (s : Stp) (v : Int) : (sc s).setIfInBounds 102 (.int .i64 v) = sc { s with fn := v } := rfl
theorem sv_rd (s : Stp) : sv s 103 = .int .i64 s.rd := rfl
theorem sst_rd (s : Stp) (v : Int) : (sc s).setIfInBounds 103 (.int .i64 v) = sc { s with rd := v } := rfl
theorem sv_rs1 (s : Stp) : sv s 104 = .int .i64 s.rs1 := rfl
theorem sst_rs1 (s : Stp) (v : Int) : (sc s).setIfInBounds 104 (.int .i64 v) = sc { s with rs1 := v } := rfl
theorem sv_rs2 (s : Stp) : sv s 105 = .int .i64 s.rs2 := rfl
theorem sst_rs2 (s : Stp) (v : Int) : (sc s).setIfInBounds 105 (.int .i64 v) = sc { s with rs2 := v } := rfl
theorem sv_imm (s : Stp) : sv s 106 = .int .i64 s.imm := rfl
theorem sst_imm (s : Stp) (v : Int) : (sc s).setIfInBounds 106 (.int .i64 v) = sc { s with imm := v } := rfl
theorem sv_sz (s : Stp) : sv s 107 = .int .i64 s.sz := rfl
theorem sst_sz (s : Stp) (v : Int) : (sc s).setIfInBounds 107 (.int .i64 v) = sc { s with sz := v } := rfl
theorem sv_sg (s : Stp) : sv s 108 = .bool s.sg := rfl
theorem sst_sg (s : Stp) (v : Bool) : (sc s).setIfInBounds 108 (.bool v) = sc { s with sg := v } := rfl
theorem sv_long (s : Stp) : sv s 109 = .int .u64 s.long := rfl
theorem sst_long (s : Stp) (v : Int) : (sc s).setIfInBounds 109 (.int .u64 v) = sc { s with long := v } := rfl
theorem sv_bits (s : Stp) : sv s 110 = .int .u64 s.bits := rfl
theorem sst_bits (s : Stp) (v : Int) : (sc s).setIfInBounds 110 (.int .u64 v) = sc { s with bits := v } := rfl
theorem sv_ek (s : Stp) : sv s 111 = .int .i64 s.ek := rfl
theorem sst_ek (s : Stp) (v : Int) : (sc s).setIfInBounds 111 (.int .i64 v) = sc { s with ek := v } := rfl
theorem sv_ea (s : Stp) : sv s 112 = .int .i64 s.ea := rfl
theorem sst_ea (s : Stp) (v : Int) : (sc s).setIfInBounds 112 (.int .i64 v) = sc { s with ea := v } := rfl
theorem sv_eva (s : Stp) : sv s 113 = .int .u64 s.eva := rfl
theorem sst_eva (s : Stp) (v : Int) : (sc s).setIfInBounds 113 (.int .u64 v) = sc { s with eva := v } := rfl
theorem sv_egpa (s : Stp) : sv s 114 = .int .u64 s.egpa := rfl
theorem sst_egpa (s : Stp) (v : Int) : (sc s).setIfInBounds 114 (.int .u64 v) = sc { s with egpa := v } := rfl
theorem sv_ewalk (s : Stp) : sv s 115 = .bool s.ewalk := rfl
theorem sst_ewalk (s : Stp) (v : Bool) : (sc s).setIfInBounds 115 (.bool v) = sc { s with ewalk := v } := rfl
theorem sv_ewrote (s : Stp) : sv s 116 = .bool s.ewrote := rfl
theorem sst_ewrote (s : Stp) (v : Bool) : (sc s).setIfInBounds 116 (.bool v) = sc { s with ewrote := v } := rfl
theorem sv_was_pc (s : Stp) : sv s 35 = .int .u64 s.was.pc := rfl
theorem sv_was_user (s : Stp) : sv s 36 = .bool s.was.user := rfl
theorem sv_was_on (s : Stp) : sv s 37 = .bool s.was.on := rfl
theorem sv_was_spie (s : Stp) : sv s 38 = .bool s.was.spie := rfl
theorem sv_was_spp (s : Stp) : sv s 39 = .bool s.was.spp := rfl
theorem sv_was_sum (s : Stp) : sv s 40 = .bool s.was.sum := rfl
theorem sv_was_mxr (s : Stp) : sv s 41 = .bool s.was.mxr := rfl
theorem sv_was_rsv (s : Stp) : sv s 42 = .bool s.was.rsv := rfl
theorem sv_was_stvec (s : Stp) : sv s 43 = .int .u64 s.was.stvec := rfl
theorem sv_was_sscr (s : Stp) : sv s 44 = .int .u64 s.was.sscr := rfl
theorem sv_was_sepc (s : Stp) : sv s 45 = .int .u64 s.was.sepc := rfl
theorem sv_was_scause (s : Stp) : sv s 46 = .int .u64 s.was.scause := rfl
theorem sv_was_stval (s : Stp) : sv s 47 = .int .u64 s.was.stval := rfl
theorem sv_was_sie (s : Stp) : sv s 48 = .int .u64 s.was.sie := rfl
theorem sv_was_sip (s : Stp) : sv s 49 = .int .u64 s.was.sip := rfl
theorem sv_was_satp (s : Stp) : sv s 50 = .int .u64 s.was.satp := rfl
theorem sv_was_resv (s : Stp) : sv s 51 = .int .u64 s.was.resv := rfl
theorem sv_h_pc (s : Stp) : sv s 84 = .int .u64 s.h.pc := rfl
theorem sst_h_pc (s : Stp) (v : Int) : (sc s).setIfInBounds 84 (.int .u64 v) = sc { s with h := { s.h with pc := v } } := rfl
theorem sv_h_user (s : Stp) : sv s 85 = .bool s.h.user := rfl
theorem sst_h_user (s : Stp) (v : Bool) : (sc s).setIfInBounds 85 (.bool v) = sc { s with h := { s.h with user := v } } := rfl
theorem sv_h_on (s : Stp) : sv s 86 = .bool s.h.on := rfl
theorem sst_h_on (s : Stp) (v : Bool) : (sc s).setIfInBounds 86 (.bool v) = sc { s with h := { s.h with on := v } } := rfl
theorem sv_h_spie (s : Stp) : sv s 87 = .bool s.h.spie := rfl
theorem sst_h_spie (s : Stp) (v : Bool) : (sc s).setIfInBounds 87 (.bool v) = sc { s with h := { s.h with spie := v } } := rfl
theorem sv_h_spp (s : Stp) : sv s 88 = .bool s.h.spp := rfl
theorem sst_h_spp (s : Stp) (v : Bool) : (sc s).setIfInBounds 88 (.bool v) = sc { s with h := { s.h with spp := v } } := rfl
theorem sv_h_sum (s : Stp) : sv s 89 = .bool s.h.sum := rfl
theorem sst_h_sum (s : Stp) (v : Bool) : (sc s).setIfInBounds 89 (.bool v) = sc { s with h := { s.h with sum := v } } := rfl
theorem sv_h_mxr (s : Stp) : sv s 90 = .bool s.h.mxr := rfl
theorem sst_h_mxr (s : Stp) (v : Bool) : (sc s).setIfInBounds 90 (.bool v) = sc { s with h := { s.h with mxr := v } } := rfl
theorem sv_h_rsv (s : Stp) : sv s 91 = .bool s.h.rsv := rfl
theorem sst_h_rsv (s : Stp) (v : Bool) : (sc s).setIfInBounds 91 (.bool v) = sc { s with h := { s.h with rsv := v } } := rfl
theorem sv_h_stvec (s : Stp) : sv s 92 = .int .u64 s.h.stvec := rfl
theorem sst_h_stvec (s : Stp) (v : Int) : (sc s).setIfInBounds 92 (.int .u64 v) = sc { s with h := { s.h with stvec := v } } := rfl
theorem sv_h_sscr (s : Stp) : sv s 93 = .int .u64 s.h.sscr := rfl
theorem sst_h_sscr (s : Stp) (v : Int) : (sc s).setIfInBounds 93 (.int .u64 v) = sc { s with h := { s.h with sscr := v } } := rfl
theorem sv_h_sepc (s : Stp) : sv s 94 = .int .u64 s.h.sepc := rfl
theorem sst_h_sepc (s : Stp) (v : Int) : (sc s).setIfInBounds 94 (.int .u64 v) = sc { s with h := { s.h with sepc := v } } := rfl
theorem sv_h_scause (s : Stp) : sv s 95 = .int .u64 s.h.scause := rfl
theorem sst_h_scause (s : Stp) (v : Int) : (sc s).setIfInBounds 95 (.int .u64 v) = sc { s with h := { s.h with scause := v } } := rfl
theorem sv_h_stval (s : Stp) : sv s 96 = .int .u64 s.h.stval := rfl
theorem sst_h_stval (s : Stp) (v : Int) : (sc s).setIfInBounds 96 (.int .u64 v) = sc { s with h := { s.h with stval := v } } := rfl
theorem sv_h_sie (s : Stp) : sv s 97 = .int .u64 s.h.sie := rfl
theorem sst_h_sie (s : Stp) (v : Int) : (sc s).setIfInBounds 97 (.int .u64 v) = sc { s with h := { s.h with sie := v } } := rfl
theorem sv_h_sip (s : Stp) : sv s 98 = .int .u64 s.h.sip := rfl
theorem sst_h_sip (s : Stp) (v : Int) : (sc s).setIfInBounds 98 (.int .u64 v) = sc { s with h := { s.h with sip := v } } := rfl
theorem sv_h_satp (s : Stp) : sv s 99 = .int .u64 s.h.satp := rfl
theorem sst_h_satp (s : Stp) (v : Int) : (sc s).setIfInBounds 99 (.int .u64 v) = sc { s with h := { s.h with satp := v } } := rfl
theorem sv_h_resv (s : Stp) : sv s 100 = .int .u64 s.h.resv := rfl
theorem sst_h_resv (s : Stp) (v : Int) : (sc s).setIfInBounds 100 (.int .u64 v) = sc { s with h := { s.h with resv := v } } := rfl
theorem sc_was_x (s : Stp) {i : Nat} (hi : i < 32) : (sc s)[3 + i]? = some (.int .u64 (s.was.x i)) := by
  obtain h1 | h1 | h1 | h1 | h1 | h1 | h1 | h1 | h1 | h1 | h1 | h1 | h1 | h1 | h1 | h1 | h1 | h1 | h1 | h1 | h1 | h1 | h1 | h1 | h1 | h1 | h1 | h1 | h1 | h1 | h1 | h1 : i = 0 ∨ i = 1 ∨ i = 2 ∨ i = 3 ∨ i = 4 ∨ i = 5 ∨ i = 6 ∨ i = 7 ∨ i = 8 ∨ i = 9 ∨ i = 10 ∨ i = 11 ∨ i = 12 ∨ i = 13 ∨ i = 14 ∨ i = 15 ∨ i = 16 ∨ i = 17 ∨ i = 18 ∨ i = 19 ∨ i = 20 ∨ i = 21 ∨ i = 22 ∨ i = 23 ∨ i = 24 ∨ i = 25 ∨ i = 26 ∨ i = 27 ∨ i = 28 ∨ i = 29 ∨ i = 30 ∨ i = 31 := by omega
  all_goals (subst h1; rfl)
theorem sst_h_x (s : Stp) {i : Nat} (hi : i < 32) (v : Int) : (sc s).setIfInBounds (52 + i) (.int .u64 v) = sc { s with h := { s.h with x := xup s.h.x i v } } := by
  obtain h1 | h1 | h1 | h1 | h1 | h1 | h1 | h1 | h1 | h1 | h1 | h1 | h1 | h1 | h1 | h1 | h1 | h1 | h1 | h1 | h1 | h1 | h1 | h1 | h1 | h1 | h1 | h1 | h1 | h1 | h1 | h1 : i = 0 ∨ i = 1 ∨ i = 2 ∨ i = 3 ∨ i = 4 ∨ i = 5 ∨ i = 6 ∨ i = 7 ∨ i = 8 ∨ i = 9 ∨ i = 10 ∨ i = 11 ∨ i = 12 ∨ i = 13 ∨ i = 14 ∨ i = 15 ∨ i = 16 ∨ i = 17 ∨ i = 18 ∨ i = 19 ∨ i = 20 ∨ i = 21 ∨ i = 22 ∨ i = 23 ∨ i = 24 ∨ i = 25 ∨ i = 26 ∨ i = 27 ∨ i = 28 ∨ i = 29 ∨ i = 30 ∨ i = 31 := by omega
  all_goals (subst h1; rfl)
theorem sst_h_x0 (s : Stp) (v : Int) : (sc s).setIfInBounds 52 (.int .u64 v) = sc { s with h := { s.h with x := xup s.h.x 0 v } } := sst_h_x s (i := 0) (by decide) v
theorem row_h (s : Stp) : Row (sc s) 52 (hc s.h) := by
  intro j v hv
  have hj : j < 49 := (List.getElem?_eq_some_iff.1 hv).1
  obtain h1 | h1 | h1 | h1 | h1 | h1 | h1 | h1 | h1 | h1 | h1 | h1 | h1 | h1 | h1 | h1 | h1 | h1 | h1 | h1 | h1 | h1 | h1 | h1 | h1 | h1 | h1 | h1 | h1 | h1 | h1 | h1 | h1 | h1 | h1 | h1 | h1 | h1 | h1 | h1 | h1 | h1 | h1 | h1 | h1 | h1 | h1 | h1 | h1 : j = 0 ∨ j = 1 ∨ j = 2 ∨ j = 3 ∨ j = 4 ∨ j = 5 ∨ j = 6 ∨ j = 7 ∨ j = 8 ∨ j = 9 ∨ j = 10 ∨ j = 11 ∨ j = 12 ∨ j = 13 ∨ j = 14 ∨ j = 15 ∨ j = 16 ∨ j = 17 ∨ j = 18 ∨ j = 19 ∨ j = 20 ∨ j = 21 ∨ j = 22 ∨ j = 23 ∨ j = 24 ∨ j = 25 ∨ j = 26 ∨ j = 27 ∨ j = 28 ∨ j = 29 ∨ j = 30 ∨ j = 31 ∨ j = 32 ∨ j = 33 ∨ j = 34 ∨ j = 35 ∨ j = 36 ∨ j = 37 ∨ j = 38 ∨ j = 39 ∨ j = 40 ∨ j = 41 ∨ j = 42 ∨ j = 43 ∨ j = 44 ∨ j = 45 ∨ j = 46 ∨ j = 47 ∨ j = 48 := by omega
  all_goals (subst h1; exact hv)
def ecells (s : Stp) : Array Value := #[.int .i64 s.ek, .int .i64 s.ea, .int .u64 s.eva, .int .u64 s.egpa, .bool s.ewalk, .bool s.ewrote]
theorem row_e (s : Stp) : Row (sc s) 111 (ecells s) := by
  intro j v hv
  have hj : j < 6 := (List.getElem?_eq_some_iff.1 hv).1
  obtain h1 | h1 | h1 | h1 | h1 | h1 : j = 0 ∨ j = 1 ∨ j = 2 ∨ j = 3 ∨ j = 4 ∨ j = 5 := by omega
  all_goals (subst h1; exact hv)
theorem lays_h (s : Stp) (h' : Hrt) : lays (sc s) 52 (hc h').toList = sc { s with h := h' } := by
  refine Array.toList_inj.1 ((lays_list _ _ _ (Nat.le_of_ble_eq_true rfl)).trans rfl)
theorem lays_i (s : Stp) (k fn rd rs1 rs2 imm sz : Int) (sg : Bool) : lays (sc s) 101 (#[.int .i64 k, .int .i64 fn, .int .i64 rd, .int .i64 rs1, .int .i64 rs2, .int .i64 imm, .int .i64 sz, .bool sg] : Array Value).toList = sc { s with k := k, fn := fn, rd := rd, rs1 := rs1, rs2 := rs2, imm := imm, sz := sz, sg := sg } := by
  refine Array.toList_inj.1 ((lays_list _ _ _ (Nat.le_of_ble_eq_true rfl)).trans rfl)
end Go.Proofs.YtidiojhefjhojaaGreat.Hart
end
section
namespace Go.Proofs.YtidiojhefjhojaaGreat.Sq
open Go Go.RowKit Go.Proofs.YtidiojhefjhojaaGreat.Reg Go.Proofs.YtidiojhefjhojaaGreat.Calm
set_option linter.unusedVariables false
set_option linter.unusedSimpArgs false
section
variable {P : Program} {ops : Array Oper}
/-- Any invariant that every operation keeps. -/
theorem any_invB {Inv : Array Bool → Act → World → Prop} {Q : Exit → Act → World → Prop} (hback : ∀ (i : Nat) (o : Oper), ops[i]? = some o → ∀ e ∈ o.after, Region.binds .any e = true → e.on < i)
    (hstep : ∀ (i : Nat) (o : Oper), ops[i]? = some o → ∀ (L : Array Bool) (a : Act) (w : World), L.size = ops.size → L.getD i true = false → (∀ e ∈ o.after, Region.binds .any e = true → L.getD e.on true = true) → Inv L a w → wpOp P ops Q i (Inv (L.setIfInBounds i true)) a w)
    (hQ : ∀ (L : Array Bool) (a : Act) (w : World), L.size = ops.size → (∀ i, i < ops.size → L.getD i true = true) → Inv L a w → Q .normal a w) :
    ∀ (fuel : Nat) (L : Array Bool) (a : Act) (w : World), L.size = ops.size → left ops.size L ≤ fuel → Inv L a w → wpAny P .any ops Q fuel L a w := by
  have all : ∀ (L : Array Bool), L.size = ops.size → Region.ready .any ops L = [] → ∀ i, i < ops.size → L.getD i true = true := by
    intro L hsz hr i
    induction i using Nat.strongRecOn with
    | ind i ih =>
      intro hi
      cases hL : L.getD i true with
      | true => rfl
      | false =>
        exfalso
        have ho : ops[i]? = some ops[i] := Array.getElem?_eq_getElem hi
        have ha := hback i _ ho
        have : i ∈ Region.ready .any ops L := mem_ready.2 ⟨hL, ops[i], ho, fun e he hb => by
          have h1 := ih e.on (ha e he hb) (Nat.lt_trans (ha e he hb) hi)
          have h2 : e.on < L.size := by rw [hsz]; exact Nat.lt_trans (ha e he hb) hi
          simpa [Array.getD_eq_getD_getElem?, Array.getElem?_eq_getElem h2] using h1⟩
        rw [hr] at this; cases this
  intro fuel
  induction fuel with
  | zero =>
    intro L a w hsz hleft hI
    have hr : Region.ready .any ops L = [] := by
      apply List.eq_nil_iff_forall_not_mem.2
      intro i hi
      obtain ⟨hL, o, ho, _⟩ := mem_ready.1 hi
      have hin : i < ops.size := (Array.getElem?_eq_some_iff.1 ho).1
      have := left_set hin (by omega) hL
      omega
    exact ⟨hr, hQ L a w hsz (all L hsz hr) hI⟩
  | succ fuel ih =>
    intro L a w hsz hleft hI
    refine ⟨fun hr => hQ L a w hsz (all L hsz hr) hI, fun i hi => ?_⟩
    obtain ⟨hL, o, ho, hall⟩ := mem_ready.1 hi
    have hin : i < ops.size := (Array.getElem?_eq_some_iff.1 ho).1
    have hdep : ∀ e ∈ o.after, Region.binds .any e = true → L.getD e.on true = true := fun e he hb => by
      have h1 := hall e he hb
      rcases Nat.lt_or_ge e.on L.size with h' | h'
      · simpa [Array.getD_eq_getD_getElem?, Array.getElem?_eq_getElem h'] using h1
      · simp [Array.getD_eq_getD_getElem?, Array.getElem?_eq_none h'] at h1
    refine wpOp_mono (fun a' w' hI' => ih _ a' w' (by simpa using hsz) ?_ hI') (hstep i o ho L a w hsz hL hdep hI)
    have := left_set hin (show i < L.size by omega) hL
    omega
/-- k waits for j. -/
def dep (ops : Array Oper) (k j : Nat) : Bool := match ops[k]? with | some o => o.after.any (fun e => e.on == j && Region.binds .any e) | none => false
/-- All that those of S wait for, below n. -/
def sweep (ops : Array Oper) : Nat → List Nat → List Nat
  | 0, S => S
  | j + 1, S => if S.any (fun k => dep ops k j) then sweep ops j (j :: S) else sweep ops j S
def lastAfter (ops : Array Oper) (i : Nat) : Bool := (List.range i).all fun j => (sweep ops i [i]).contains j
/-- What stands listed, so does all that it waited for. -/
def Closed (ops : Array Oper) (L : Array Bool) : Prop := ∀ (k : Nat) (o : Oper), ops[k]? = some o → L.getD k false = true → ∀ e ∈ o.after, Region.binds .any e = true → L.getD e.on true = true
theorem dep_out {k j : Nat} (h : dep ops k j = true) : ∃ o, ops[k]? = some o ∧ ∃ e ∈ o.after, e.on = j ∧ Region.binds .any e = true := by
  unfold dep at h
  cases ho : ops[k]? with
  | none => rw [ho] at h; cases h
  | some o =>
    rw [ho] at h
    obtain ⟨e, he, hb⟩ := Array.any_eq_true'.1 h
    simp only [Bool.and_eq_true, beq_iff_eq] at hb
    exact ⟨o, rfl, e, he, hb.1, hb.2⟩
theorem sweep_listed {L : Array Bool} {i : Nat} {o : Oper} (ho : ops[i]? = some o) (hc : Closed ops L) (hsz : L.size = ops.size) (hdep : ∀ e ∈ o.after, Region.binds .any e = true → L.getD e.on true = true) :
    ∀ (n : Nat) (S : List Nat), n ≤ ops.size → (∀ k ∈ S, k = i ∨ L.getD k true = true) → ∀ k ∈ sweep ops n S, k = i ∨ L.getD k true = true
  | 0, S, _, hS, k, hk => hS k hk
  | j + 1, S, hn, hS, k, hk => by
    unfold sweep at hk
    split at hk
    · rename_i hany
      refine sweep_listed ho hc hsz hdep j (j :: S) (by omega) (fun x hx => ?_) k hk
      rcases List.mem_cons.1 hx with rfl | hx
      · obtain ⟨y, hy, hd⟩ := List.any_eq_true.1 hany
        obtain ⟨oy, hoy, e, he, rfl, hb⟩ := dep_out hd
        rcases hS y hy with rfl | hy'
        · rw [ho] at hoy; obtain rfl := Option.some.inj hoy
          exact .inr (hdep e he hb)
        · have hyl : y < L.size := by rw [hsz]; exact (Array.getElem?_eq_some_iff.1 hoy).1
          exact .inr (hc y oy hoy (by simpa [Array.getD_eq_getD_getElem?, Array.getElem?_eq_getElem hyl] using hy') e he hb)
      · exact hS x hx
    · exact sweep_listed ho hc hsz hdep j S (by omega) hS k hk
theorem lastAfter_all {L : Array Bool} {i : Nat} {o : Oper} (h : lastAfter ops i = true) (ho : ops[i]? = some o) (hc : Closed ops L) (hsz : L.size = ops.size) (hdep : ∀ e ∈ o.after, Region.binds .any e = true → L.getD e.on true = true) :
    ∀ j, j < i → L.getD j true = true := fun j hj => by
  have h1 := List.all_eq_true.1 h j (List.mem_range.2 hj)
  have h2 := sweep_listed ho hc hsz hdep i [i] (Nat.le_of_lt (Array.getElem?_eq_some_iff.1 ho).1) (fun k hk => .inl (List.mem_singleton.1 hk)) j (by simpa using h1)
  rcases h2 with h2 | h2
  · omega
  · exact h2
theorem Closed.set {L : Array Bool} {i : Nat} {o : Oper} (hc : Closed ops L) (ho : ops[i]? = some o) (hdep : ∀ e ∈ o.after, Region.binds .any e = true → L.getD e.on true = true) : Closed ops (L.setIfInBounds i true) := by
  have hup : ∀ j, L.getD j true = true → (L.setIfInBounds i true).getD j true = true := by
    intro j hj
    by_cases e : i = j
    · subst e
      by_cases hl : i < L.size
      · simp [Array.getD_eq_getD_getElem?, hl]
      · simp [Array.getD_eq_getD_getElem?, hl]
    · simpa [Array.getD_eq_getD_getElem?, Array.getElem?_setIfInBounds_ne e] using hj
  intro k o' ho' hk e he hb
  by_cases ek : i = k
  · subst ek
    rw [ho] at ho'; obtain rfl := Option.some.inj ho'
    exact hup _ (hdep e he hb)
  · have hk' : L.getD k false = true := by simpa [Array.getD_eq_getD_getElem?, Array.getElem?_setIfInBounds_ne ek] using hk
    exact hup _ (hc k o' ho' hk' e he hb)
/-- The first m operations look only at what is filled ahead of them, no two of them fill one slot; the others come behind all that stands ahead of them. -/
def parted (ops : Array Oper) (m : Nat) : Bool :=
  (List.range ops.size).all fun i => match ops[i]? with
    | none => true
    | some o => (o.after.all fun e => !Region.binds .any e || decide (e.on < i)) && (match o.op with | .select .. => false | _ => true) &&
        (if i < m then ((o.looksAt ops).all fun t => (List.range m).all fun j => match ops[j]? with
          | none => true
          | some oj => oj.dst != some t || o.after.any fun e => e.on == j && Region.binds .any e) && ((List.range m).all fun j => j == i || match ops[j]? with | none => true | some oj => oj.dst == none || oj.dst != o.dst)
         else lastAfter ops i)
theorem parted_at {m : Nat} (h : parted ops m = true) {i : Nat} {o : Oper} (ho : ops[i]? = some o) :
    (∀ e ∈ o.after, Region.binds .any e = true → e.on < i) ∧ (∀ cs b, o.op ≠ .select cs b) ∧ (i < m → ∀ t ∈ o.looksAt ops, ∀ (j : Nat) (oj : Oper), j < m → ops[j]? = some oj → oj.dst = some t → ∃ e ∈ o.after, e.on = j ∧ Region.binds .any e = true) ∧
      (i < m → ∀ (j : Nat) (oj : Oper), j < m → j ≠ i → ops[j]? = some oj → ∀ t, oj.dst = some t → o.dst ≠ some t) ∧ (m ≤ i → lastAfter ops i = true) := by
  unfold parted at h
  have hi : i < ops.size := (Array.getElem?_eq_some_iff.1 ho).1
  have h1 := List.all_eq_true.1 h i (List.mem_range.2 hi)
  simp only [ho, Bool.and_eq_true, Array.all_eq_true'] at h1
  obtain ⟨⟨ha, hs⟩, hl⟩ := h1
  refine ⟨fun e he hb => by have h := ha e he; rw [hb] at h; simpa using h, fun cs b e => ?_, fun him t ht j oj hjm hj hd => ?_, fun him j oj hjm hne hj t hd => ?_, fun him => ?_⟩
  · rw [e] at hs; cases hs
  · rw [if_pos him, Bool.and_eq_true] at hl
    have h2 := List.all_eq_true.1 hl.1 t ht
    have h3 := List.all_eq_true.1 h2 j (List.mem_range.2 hjm)
    simp only [hj, hd, bne_self_eq_false, Bool.false_or] at h3
    obtain ⟨e, he, hb⟩ := Array.any_eq_true'.1 h3
    simp only [Bool.and_eq_true, beq_iff_eq] at hb
    exact ⟨e, he, hb.1, hb.2⟩
  · rw [if_pos him, Bool.and_eq_true] at hl
    have h3 := List.all_eq_true.1 hl.2 j (List.mem_range.2 hjm)
    simp only [hj, hd, Bool.or_eq_true, beq_iff_eq] at h3
    intro e
    rcases h3 with h3 | h3 | h3
    · exact hne h3
    · cases h3
    · rw [e] at h3; simp at h3
  · rwa [if_neg (by omega)] at hl
/-- An operation at a frame, wherever the condition holds: it yields v and keeps the condition. -/
def Comes (P : Program) (ops : Array Oper) (I : World → Prop) (a : Act) (o : Oper) (v : Value) : Prop :=
  (Region.wanted o (yielded ops a.tmps) = true ∧ ∀ X, I X → o.wp P a X (fun a' X' => a' = a.put o.dst v ∧ I X') (fun _ _ _ => False)) ∨ (Region.wanted o (yielded ops a.tmps) = false ∧ v = undef)
def Seq (P : Program) (ops : Array Oper) (I : World → Prop) : List Oper → Act → (Act → Prop) → Prop
  | [], a, K => K a
  | o :: r, a, K => ∃ v, Comes P ops I a o v ∧ Seq P ops I r (a.put o.dst v) K
theorem seq_nil {I : World → Prop} {a : Act} {K : Act → Prop} (h : K a) : Seq P ops I [] a K := h
def fr : Act → List (Oper × Value) → Act
  | a, [] => a
  | a, (o, v) :: q => fr (a.put o.dst v) q
theorem fr_size : ∀ (q : List (Oper × Value)) (a : Act), (fr a q).tmps.size = a.tmps.size
  | [], _ => rfl
  | (o, v) :: q, a => (fr_size q _).trans (by cases h : o.dst <;> simp [Act.put])
theorem fr_defers : ∀ (q : List (Oper × Value)) (a : Act), (fr a q).defers = a.defers
  | [], _ => rfl
  | (o, v) :: q, a => (fr_defers q _).trans (by cases h : o.dst <;> simp [Act.put])
theorem fr_other (t : Nat) : ∀ (q : List (Oper × Value)) (a : Act), (∀ p ∈ q, p.1.dst ≠ some t) → (fr a q).tmps[t]? = a.tmps[t]?
  | [], _, _ => rfl
  | (o, v) :: q, a, h => (fr_other t q _ fun p hp => h p (List.mem_cons_of_mem _ hp)).trans (by
      have h1 : o.dst ≠ some t := h _ (List.mem_cons_self ..)
      cases hd : o.dst with
      | none => rfl
      | some d =>
        have : d ≠ t := fun e => h1 (by rw [hd, e])
        simp [Act.put, Array.getElem?_setIfInBounds_ne this])
theorem fr_append : ∀ (q r : List (Oper × Value)) (a : Act), fr a (q ++ r) = fr (fr a q) r
  | [], _, _ => rfl
  | (o, v) :: q, r, a => fr_append q r (a.put o.dst v)
theorem seq_out {I : World → Prop} {K : Act → Prop} : ∀ (l : List Oper) (a : Act), Seq P ops I l a K → ∃ vs : List Value, vs.length = l.length ∧ K (fr a (l.zip vs)) ∧
    ∀ (i : Nat) (o : Oper) (v : Value), l[i]? = some o → vs[i]? = some v → Comes P ops I (fr a ((l.zip vs).take i)) o v
  | [], a, h => ⟨[], rfl, h, fun i o v ho => by simp at ho⟩
  | o :: r, a, ⟨v, hc, h⟩ => by
    obtain ⟨vs, hl, hK, hall⟩ := seq_out r _ h
    refine ⟨v :: vs, by simp [hl], hK, fun i o' v' ho hv => ?_⟩
    cases i with
    | zero =>
      simp only [List.getElem?_cons_zero, Option.some.injEq] at ho hv
      subst ho hv
      exact hc
    | succ i =>
      simp only [List.getElem?_cons_succ] at ho hv
      exact hall i o' v' ho hv
theorem put_back {a fin : Act} {d : Option Tmp} {u v : Value} (hsz : a.tmps.size = fin.tmps.size) (h : a.put d u = a.put d v) (hv : fin.put d v = fin) : fin.put d u = fin := by
  cases d with
  | none => rfl
  | some t =>
    by_cases hl : t < a.tmps.size
    · have h1 := congrArg (fun x : Act => x.tmps[t]?) h
      simp only [Act.put, Array.getElem?_setIfInBounds_self, hl, if_true, Option.some.injEq] at h1
      rw [h1]; exact hv
    · have : fin.tmps.setIfInBounds t u = fin.tmps := Array.setIfInBounds_eq_of_size_le (by rw [← hsz]; exact Nat.not_lt.1 hl)
      show ({ fin with tmps := fin.tmps.setIfInBounds t u } : Act) = fin
      rw [this]
/-- The same operation at another frame that shows it the same. -/
theorem wp_move {I : World → Prop} {o : Oper} {a fin : Act} {X : World} {v : Value} (hex : execOp a.eval o = execOp fin.eval o) (hsz : a.tmps.size = fin.tmps.size) (hv : fin.put o.dst v = fin)
    (h : o.wp P a X (fun a' X' => a' = a.put o.dst v ∧ I X') (fun _ _ _ => False)) : o.wp P fin X (fun a' X' => a' = fin ∧ I X') (fun _ _ _ => False) := by
  unfold Oper.wp at *
  rw [hex] at h
  generalize (execOp fin.eval o).run P X = r at *
  cases r with
  | ok n w' =>
    cases n <;> simp only [Oper.upon] at h ⊢
    case value u => exact ⟨put_back hsz h.1 hv, h.2⟩
    case skip => exact ⟨put_back hsz h.1 hv, h.2⟩
    case defer d =>
      exfalso
      have h1 := congrArg Act.defers h.1
      have h2 : (({ a with defers := d :: a.defers } : Act).put o.dst undef).defers = d :: a.defers := by cases o.dst <;> rfl
      have h3 : (a.put o.dst v).defers = a.defers := by cases o.dst <;> rfl
      rw [h2, h3] at h1
      have := congrArg List.length h1
      simp at this
    case enter f args =>
      refine Calls.mono h fun e w'' he => ?_
      cases e with
      | returned u => exact ⟨put_back hsz he.1 hv, he.2⟩
      | panicked c => exact he.elim
      | outgrown => obtain ⟨_, _, hf⟩ := he; exact hf.elim
    case row row args => exact Rows.mono h fun u w'' he => ⟨put_back hsz he.1 hv, he.2⟩
  | halt x w' =>
    cases x <;> simp only [Oper.upon] at h ⊢
/-- What is asked of an operation at the final frame. -/
def Keeps (P : Program) (ops : Array Oper) (fin : Act) (I : World → Prop) (o : Oper) : Prop :=
  ∀ X, I X → if Region.wanted o (yielded ops fin.tmps) then o.wp P fin X (fun a' X' => a' = fin ∧ I X') (fun _ _ _ => False) else fin.put o.dst undef = fin
theorem looks_eq {a fin : Act} {o : Oper} (hs : ∀ cs b, o.op ≠ .select cs b) (seen : ∀ t ∈ o.looksAt ops, a.tmps[t]? = fin.tmps[t]?) :
    execOp a.eval o = execOp fin.eval o ∧ Region.wanted o (yielded ops a.tmps) = Region.wanted o (yielded ops fin.tmps) := by
  refine ⟨execOp_congr o hs fun x hx => ?_, ?_⟩
  · cases x with
    | tmp t =>
      have := seen t (List.mem_append_left _ (List.mem_filterMap.2 ⟨.tmp t, by simpa using hx, rfl⟩))
      simp only [Act.eval, Array.getD_eq_getD_getElem?, this]
    | _ => rfl
  · unfold Region.wanted
    cases hg : o.guard with
    | none => rfl
    | some p =>
      obtain ⟨g, want⟩ := p
      have : yielded ops a.tmps g = yielded ops fin.tmps g := by
        unfold yielded
        cases hgd : (ops[g]?).bind (·.dst) with
        | none => rfl
        | some t =>
          have ht : t ∈ o.looksAt ops := List.mem_append_right _ (by simp [hg, hgd])
          simp only [Option.bind_some, seen t ht]
      simp only [this]
theorem keep_step {m : Nat} {L : Array Bool} {a fin : Act} {i : Nat} {o : Oper} {w : World} {I : World → Prop} {Q : Exit → Act → World → Prop} {K : Act → World → Prop} (hp : parted ops m = true) (ho : ops[i]? = some o) (him : i < m)
    (hdep : ∀ e ∈ o.after, Region.binds .any e = true → L.getD e.on true = true) (h : AgreeM ops m L a fin) (hw : I w) (hc : Keeps P ops fin I o)
    (hK : ∀ a' w', AgreeM ops m (L.setIfInBounds i true) a' fin → I w' → K a' w') : wpOp P ops Q i K a w := by
  obtain ⟨_, hs, hl, _⟩ := parted_at hp ho
  obtain ⟨hex, hwa⟩ := looks_eq (a := a) (fin := fin) hs (fun t ht => h.slot t fun j oj hjm hj hd => by
    obtain ⟨e, he, rfl, hb⟩ := hl him t ht j oj hjm hj hd
    exact hdep e he hb)
  have hdo := hc w hw
  unfold wpOp
  simp only [ho]
  rw [hwa]
  split
  · rename_i hw'
    rw [if_pos hw'] at hdo
    refine .inl ?_
    unfold Oper.wp at *
    rw [hex]
    generalize (execOp fin.eval o).run P w = r at *
    cases r with
    | ok n w' =>
      cases n <;> simp only [Oper.upon] at hdo ⊢
      case value u => exact hK _ _ (agreeM_put ho h hdo.1) hdo.2
      case skip => exact hK _ _ (agreeM_put ho h hdo.1) hdo.2
      case defer d =>
        exfalso
        have h1 := congrArg Act.defers hdo.1
        have h2 : (({ fin with defers := d :: fin.defers } : Act).put o.dst undef).defers = d :: fin.defers := by cases o.dst <;> rfl
        rw [h2] at h1
        have := congrArg List.length h1
        simp at this
      case enter f args =>
        refine Calls.mono hdo fun e w'' he => ?_
        cases e with
        | returned u => exact hK _ _ (agreeM_put ho h he.1) he.2
        | panicked c => exact he.elim
        | outgrown => obtain ⟨_, _, hf⟩ := he; exact hf.elim
      case row row args => exact Rows.mono hdo fun u w'' he => hK _ _ (agreeM_put ho h he.1) he.2
    | halt x w' =>
      cases x <;> simp only [Oper.upon] at hdo ⊢
  · rename_i hw'
    rw [if_neg hw'] at hdo
    exact hK _ _ (agreeM_put ho h hdo) hw
theorem keeps_of {m : Nat} {l : List Oper} {vs : List Value} {a : Act} {i : Nat} {o : Oper} {v : Value} {I : World → Prop} (hp : parted ops m = true) (hlm : l.length ≤ m) (hops : ∀ (j : Nat) (oj : Oper), l[j]? = some oj → ops[j]? = some oj)
    (hvs : vs.length = l.length) (ho : l[i]? = some o) (hv : vs[i]? = some v) (hc : Comes P ops I (fr a ((l.zip vs).take i)) o v) : Keeps P ops (fr a (l.zip vs)) I o := by
  have hil : i < l.length := (List.getElem?_eq_some_iff.1 ho).1
  have him : i < m := Nat.lt_of_lt_of_le hil hlm
  obtain ⟨hb, hs, hl, hd, _⟩ := parted_at hp (hops i o ho)
  have hz : (l.zip vs)[i]? = some (o, v) := by rw [List.getElem?_zip_eq_some]; exact ⟨ho, hv⟩
  have hiz : i < (l.zip vs).length := (List.getElem?_eq_some_iff.1 hz).1
  have hsplit : l.zip vs = (l.zip vs).take i ++ ((o, v) :: (l.zip vs).drop (i + 1)) := by
    have h1 : (l.zip vs).drop i = (o, v) :: (l.zip vs).drop (i + 1) := by
      rw [List.drop_eq_getElem_cons hiz]; congr 1
      have := List.getElem?_eq_getElem hiz; rw [hz] at this; exact (Option.some.inj this).symm
    rw [← h1, List.take_append_drop]
  have hfin : fr a (l.zip vs) = fr ((fr a ((l.zip vs).take i)).put o.dst v) ((l.zip vs).drop (i + 1)) := by
    conv => lhs; rw [hsplit]
    rw [fr_append]; rfl
  -- who stands behind
  have behind : ∀ p ∈ (l.zip vs).drop (i + 1), ∃ j, i < j ∧ j < m ∧ ops[j]? = some p.1 := by
    intro p hp'
    obtain ⟨k, hk⟩ := List.mem_iff_getElem?.1 hp'
    rw [List.getElem?_drop, List.getElem?_zip_eq_some] at hk
    have hkl : i + 1 + k < l.length := (List.getElem?_eq_some_iff.1 hk.1).1
    exact ⟨i + 1 + k, by omega, by omega, hops _ _ hk.1⟩
  generalize hai : fr a ((l.zip vs).take i) = ai at *
  generalize hq : (l.zip vs).drop (i + 1) = q at *
  have hsz : ai.tmps.size = (fr a (l.zip vs)).tmps.size := by rw [hfin, fr_size]; cases h : o.dst <;> simp [Act.put]
  have seen : ∀ t ∈ o.looksAt ops, ai.tmps[t]? = (fr a (l.zip vs)).tmps[t]? := by
    intro t ht
    have hno : ∀ (j : Nat) (oj : Oper), i ≤ j → j < m → ops[j]? = some oj → oj.dst ≠ some t := by
      intro j oj hij hjm hj he
      obtain ⟨e, he', rfl, hbd⟩ := hl him t ht j oj hjm hj he
      have := hb e he' hbd
      omega
    rw [hfin, fr_other t q _ fun p hp' he => by
      obtain ⟨j, hij, hjm, hj⟩ := behind p hp'
      exact hno j p.1 (by omega) hjm hj he]
    have h1 := hno i o (Nat.le_refl _) him (hops i o ho)
    cases hdst : o.dst with
    | none => rfl
    | some d =>
      have : d ≠ t := fun e => h1 (by rw [hdst, e])
      simp [Act.put, Array.getElem?_setIfInBounds_ne this]
  have hput : (fr a (l.zip vs)).put o.dst v = fr a (l.zip vs) := by
    cases hdst : o.dst with
    | none => rfl
    | some d =>
      have hslot : (fr a (l.zip vs)).tmps[d]? = (ai.tmps.setIfInBounds d v)[d]? := by
        rw [hfin, fr_other d q _ fun p hp' he => by
          obtain ⟨j, hij, hjm, hj⟩ := behind p hp'
          exact hd him j p.1 hjm (by omega) hj d he hdst, hdst]
        rfl
      have : (fr a (l.zip vs)).tmps.setIfInBounds d v = (fr a (l.zip vs)).tmps := by
        apply Array.ext_getElem?
        intro t
        by_cases e : d = t
        · subst e
          rw [hslot, Array.getElem?_setIfInBounds_self, Array.getElem?_setIfInBounds_self, hsz]
        · rw [Array.getElem?_setIfInBounds_ne e]
      show ({ (fr a (l.zip vs)) with tmps := (fr a (l.zip vs)).tmps.setIfInBounds d v } : Act) = _
      rw [this]
  obtain ⟨hex, hwa⟩ := looks_eq (a := ai) (fin := fr a (l.zip vs)) hs seen
  intro X hX
  rcases hc with ⟨hw, h⟩ | ⟨hw, rfl⟩
  · rw [if_pos (by rw [← hwa]; exact hw)]
    exact wp_move hex hsz hput (h X hX)
  · rw [if_neg (by rw [← hwa, hw]; decide)]
    exact hput
/-- **The first m operations in whatever order, walked once; then the rest in the text's order.** -/
theorem region {l : List Oper} {id : Nat} {a : Act} {w : World} {I : World → Prop} {Q : Exit → Act → World → Prop} (hm : P.follows .mixedOrders = true) (m : Nat) (hI : I { w with drawn := w.drawn + 1 })
    (hp : parted l.toArray m = true) (h : ∀ (ops : Array Oper) (K : Act → Prop), ops = l.toArray → RowKit.Hid (∀ fin, (∀ w', I w' → wpList P ops Q (l.drop m) fin w') → K fin) → Seq P ops I (l.take m) a K) : (Code.region id l.toArray true).wp P Q a w := by
  have hsz : l.toArray.size = l.length := by simp
  replace h := h _ _ rfl (Lib.hid fun _ h => h)
  obtain ⟨vs, hvs, hrest, hcomes⟩ := seq_out _ _ h
  have hkeep : ∀ o ∈ l.take m, Keeps P l.toArray (fr a ((l.take m).zip vs)) I o := by
    intro o ho
    obtain ⟨i, hi⟩ := List.mem_iff_getElem?.1 ho
    have hil : i < (l.take m).length := (List.getElem?_eq_some_iff.1 hi).1
    have hv : vs[i]? = some vs[i] := List.getElem?_eq_getElem (by omega)
    refine keeps_of (m := m) hp (by simp; omega) (fun j oj hj => ?_) hvs hi hv (hcomes i o _ hi hv)
    have : (l.take m)[j]? = l[j]? := by
      rw [List.getElem?_take]
      split
      · rfl
      · rename_i hc
        have := (List.getElem?_eq_some_iff.1 hj).1
        simp at this
        omega
    rw [this] at hj
    simpa using hj
  have hslots : ∀ t, (∀ (j : Nat) (o : Oper), j < m → l.toArray[j]? = some o → o.dst ≠ some t) → (fr a ((l.take m).zip vs)).tmps[t]? = a.tmps[t]? := by
    intro t ht
    refine fr_other t _ a fun p hp' => ?_
    obtain ⟨k, hk⟩ := List.mem_iff_getElem?.1 hp'
    rw [List.getElem?_zip_eq_some] at hk
    have h1 := hk.1
    rw [List.getElem?_take] at h1
    split at h1
    · rename_i hkm
      exact ht k p.1 hkm (by simpa using h1)
    · cases h1
  have hfd : (fr a ((l.take m).zip vs)).defers = a.defers := fr_defers _ _
  have hfs : (fr a ((l.take m).zip vs)).tmps.size = a.tmps.size := fr_size _ _
  clear hcomes h
  generalize fr a ((l.take m).zip vs) = fin at *
  refine wp_region_any hm ?_
  let Inv : Array Bool → Act → World → Prop := fun L a' w => Closed l.toArray L ∧ (((∀ j, m ≤ j → j < l.length → L.getD j true = false) ∧ AgreeM l.toArray m L a' fin ∧ I w) ∨ (∃ k, m < k ∧ k ≤ l.length ∧ (∀ j, j < l.length → (L.getD j true = true ↔ j < k)) ∧ wpList P l.toArray Q (l.drop k) a' w))
  have hset : ∀ (L : Array Bool) (i j : Nat), L.size = l.length → j < l.length → ((L.setIfInBounds i true).getD j true = true ↔ (j = i ∨ L.getD j true = true)) := by
    intro L i j hs hj
    by_cases e : i = j
    · subst e; simp [Array.getD_eq_getD_getElem?, hs, hj]
    · have : j ≠ i := fun h => e h.symm
      simp [Array.getD_eq_getD_getElem?, Array.getElem?_setIfInBounds_ne e, this]
  refine any_invB (Inv := Inv) (fun i o ho => (parted_at hp ho).1) ?_ ?_ _ _ _ _ (by simp) (left_le _ _) ?_
  · intro i o ho L a' w hL hLi hdep hInv
    have hLo := hL
    rw [hsz] at hL
    have hil : i < l.length := by have := (Array.getElem?_eq_some_iff.1 ho).1; simpa using this
    have hol : l[i]? = some o := by simpa using ho
    obtain ⟨_, _, _, _, htail⟩ := parted_at hp ho
    obtain ⟨hcl, hInv⟩ := hInv
    have hcl2 := hcl.set ho hdep
    rcases hInv with ⟨hnone, hag, hb⟩ | ⟨k, hmk, hkl, hk, hrun⟩
    · by_cases him : i < m
      · refine keep_step hp ho him hdep hag hb (hkeep o (List.mem_of_getElem? (i := i) (by rw [List.getElem?_take, if_pos him]; exact hol))) fun a'' w'' ha'' hb'' => ⟨hcl2, .inl ⟨fun j hj hjl => ?_, ha'', hb''⟩⟩
        have e : i ≠ j := by omega
        have := hnone j hj hjl
        simpa [Array.getD_eq_getD_getElem?, Array.getElem?_setIfInBounds_ne e] using this
      · -- the first of the rest
        have hmi : m ≤ i := by omega
        have hall : ∀ j, j < i → L.getD j true = true := lastAfter_all (htail hmi) ho hcl hLo hdep
        have him2 : i = m := by
          rcases Nat.lt_or_ge m i with h | h
          · have := hall m h; rw [hnone m (Nat.le_refl _) (by omega)] at this; cases this
          · omega
        subst him2
        have hfin : a' = fin := by
          have ht : a'.tmps = fin.tmps := Array.ext_getElem? fun t => hag.slot t fun j o' hj _ _ => hall j hj
          have hd := hag.defers
          cases a'; cases hq : fin; simp_all
        subst hfin
        have hr := hrest w hb
        have hdrop : l.drop i = o :: l.drop (i + 1) := by
          rw [List.drop_eq_getElem_cons hil]; congr 1
          have := List.getElem?_eq_getElem hil; rw [hol] at this; exact (Option.some.inj this).symm
        rw [hdrop] at hr
        refine wpOp_mono (fun a'' w'' h'' => ⟨hcl2, .inr ⟨i + 1, by omega, by omega, fun j hj => ?_, h''⟩⟩) (wpOp_tail ho hr)
        rw [hset L i j hL hj]
        constructor
        · rintro (h | h)
          · omega
          · rcases Nat.lt_or_ge j i with h1 | h1
            · omega
            · rw [hnone j h1 hj] at h; cases h
        · intro h
          rcases Nat.lt_or_ge j i with h1 | h1
          · exact .inr (hall j h1)
          · exact .inl (by omega)
    · -- further on
      have hki : k ≤ i := by
        rcases Nat.lt_or_ge i k with h | h
        · have := (hk i hil).2 h; rw [hLi] at this; cases this
        · exact h
      have hall : ∀ j, j < i → L.getD j true = true := lastAfter_all (htail (by omega)) ho hcl hLo hdep
      have hik : i = k := by
        rcases Nat.lt_or_ge k i with h | h
        · have := (hk k (by omega)).1 (hall k h); omega
        · omega
      subst hik
      have hdrop : l.drop i = o :: l.drop (i + 1) := by
        rw [List.drop_eq_getElem_cons hil]; congr 1
        have := List.getElem?_eq_getElem hil; rw [hol] at this; exact (Option.some.inj this).symm
      rw [hdrop] at hrun
      refine wpOp_mono (fun a'' w'' h'' => ⟨hcl2, .inr ⟨i + 1, by omega, by omega, fun j hj => ?_, h''⟩⟩) (wpOp_tail ho hrun)
      rw [hset L i j hL hj]
      constructor
      · rintro (h | h)
        · omega
        · have := (hk j hj).1 h; omega
      · intro h
        rcases Nat.lt_or_ge j i with h1 | h1
        · exact .inr (hall j h1)
        · exact .inl (by omega)
  · intro L a' w hL hall hInv
    rw [hsz] at hall
    rcases hInv.2 with ⟨hnone, hag, hb⟩ | ⟨k, hmk, hkl, hk, hrun⟩
    · have hml : l.length ≤ m := by
        rcases Nat.lt_or_ge m l.length with h | h
        · have h1 := hnone m (Nat.le_refl _) h; rw [hall m h] at h1; cases h1
        · exact h
      have hfin : a' = fin := by
        have ht : a'.tmps = fin.tmps := Array.ext_getElem? fun t => hag.slot t fun j o' _ hj _ => hall j (by have := (Array.getElem?_eq_some_iff.1 hj).1; simpa using this)
        have hd := hag.defers
        cases a'; cases hq : fin; simp_all
      subst hfin
      have hr := hrest w hb
      rw [List.drop_of_length_le hml] at hr
      exact hr
    · have : k = l.length := by
        rcases Nat.lt_or_ge k l.length with h | h
        · have h1 := (hk k h).1 (hall k h); omega
        · omega
      subst this
      rw [List.drop_length] at hrun
      exact hrun
  · refine ⟨fun k o _ hk => (by exfalso; rw [Array.getD_eq_getD_getElem?, Array.getElem?_replicate] at hk; split at hk <;> simp at hk), .inl ⟨fun j hj hjl => by simp [Array.getD_eq_getD_getElem?, hjl], ⟨hfd.symm, hfs.symm, fun t ht => (hslots t fun j o hj ho he => ?_).symm⟩, hI⟩⟩
    have h2 := ht j o hj ho he
    have hjl : j < l.length := by have := (Array.getElem?_eq_some_iff.1 ho).1; simpa using this
    simp [Array.getD_eq_getD_getElem?, hjl] at h2
end
end Go.Proofs.YtidiojhefjhojaaGreat.Sq
end
section
namespace Go.Proofs.YtidiojhefjhojaaGreat.Sq
open Go Go.RowKit Go.Proofs.YtidiojhefjhojaaGreat.Reg Go.Proofs.YtidiojhefjhojaaGreat.Calm Go.Proofs.YtidiojhefjhojaaGreat.Step
set_option linter.unusedVariables false
set_option linter.unusedSimpArgs false
section
variable {P : Program} {ops : Array Oper} {I : World → Prop} {o : Oper} {r : List Oper} {a : Act} {K : Act → Prop}
theorem seq_val {v : Value} (hw : Region.wanted o (yielded ops a.tmps) = true) (hr : ∀ X, I X → (execOp a.eval o).run P X = .ok (.value v) X) (h : Seq P ops I r (a.put o.dst v) K) : Seq P ops I (o :: r) a K :=
  ⟨v, .inl ⟨hw, fun X hX => by unfold Oper.wp; rw [hr X hX]; exact ⟨rfl, hX⟩⟩, h⟩
theorem seq_pure {v : Value} (hg : o.guard = none) (hr : ∀ X, (execOp a.eval o).run P X = .ok (.value v) X) (h : Seq P ops I r (a.put o.dst v) K) : Seq P ops I (o :: r) a K :=
  seq_val (by simp [Region.wanted, hg]) (fun X _ => hr X) h
theorem seq_pure_g {v : Value} (hw : Region.wanted o (yielded ops a.tmps) = true) (hr : ∀ X, (execOp a.eval o).run P X = .ok (.value v) X) (h : Seq P ops I r (a.put o.dst v) K) : Seq P ops I (o :: r) a K :=
  seq_val hw (fun X _ => hr X) h
theorem seq_not (hw : Region.wanted o (yielded ops a.tmps) = false) (h : Seq P ops I r (a.put o.dst undef) K) : Seq P ops I (o :: r) a K := ⟨undef, .inr ⟨hw, rfl⟩, h⟩
theorem seq_move {x : Operand} (hg : o.guard = none) (ho : o.op = .move x) (h : Seq P ops I r (a.put o.dst (a.eval x)) K) : Seq P ops I (o :: r) a K :=
  seq_pure hg (fun X => by simp [execOp, ho]) h
theorem seq_check {x : Operand} {ad : Addr} (hg : o.guard = none) (ho : o.op = .nilCheck x) (hx : a.eval x = .pointer (some ad)) (h : Seq P ops I r (a.put o.dst (.pointer (some ad))) K) : Seq P ops I (o :: r) a K :=
  seq_pure hg (fun X => by simp only [execOp, ho, hx]; rfl) h
/-- A cell of a block is read. -/
theorem seq_load {t : TypeId} {x : Operand} {g i : Nat} {cs : Array Value} {T : TypeId} {v : Value} (hB : ∀ X, I X → Blk X g cs T) (hw : Region.wanted o (yielded ops a.tmps) = true) (ho : o.op = .load t x) (hx : a.eval x = .pointer (some ⟨g, i, none⟩)) (ht : plainT P t = true) (hv : cs[i]? = some v)
    (h : Seq P ops I r (a.put o.dst v) K) : Seq P ops I (o :: r) a K :=
  seq_val hw (fun X hX => by
    have := run_load1 (P := P) ht (((hB X hX).cell i).trans hv)
    simp [execOp, ho, hx, this, Result.andThen]) h
/-- A row of a block is read. -/
theorem seq_row {t : TypeId} {x : Operand} {g k : Nat} {cs ds : Array Value} {T : TypeId} {d : TypeDesc} (hB : ∀ X, I X → Blk X g cs T) (hw : Region.wanted o (yielded ops a.tmps) = true) (ho : o.op = .load t x) (hx : a.eval x = .pointer (some ⟨g, k, none⟩)) (hr : Row cs k ds) (hu : P.underlying t = some d)
    (hd : d.isRow = true) (hi : (P.info? t).map (·.size) = some ds.size) (h : Seq P ops I r (a.put o.dst (.agg ds)) K) : Seq P ops I (o :: r) a K :=
  seq_val hw (fun X hX => by
    have h2 := run_loadAt_mid (P := P) X g k t ds.toList d (fun j v hv => ((hB X hX).cell (k + j)).trans (hr j v hv)) hu hd (by simpa using hi)
    simp [execOp, ho, hx, h2, Result.andThen]) h
theorem row_all (cs : Array Value) : Row cs 0 cs := fun j v hv => by simpa using hv
/-- The function that is called. -/
def calleeOf (o : Oper) : Option FuncId := match o.op with | .call c => (match c.callee with | .value (.func f) => some f | _ => none) | _ => none
/-- A call that keeps the condition. -/
theorem seq_call {args : Array Value} {v : Value} (f : FuncId) (_ : calleeOf o = some f) (hw : Region.wanted o (yielded ops a.tmps) = true) (hr : ∀ X, (execOp a.eval o).run P X = .ok (.enter f args) X)
    (hc : ∀ X, I X → Calls P f args X fun e X' => e = .returned v ∧ I X') (h : Seq P ops I r (a.put o.dst v) K) : Seq P ops I (o :: r) a K :=
  ⟨v, .inl ⟨hw, fun X hX => by
    unfold Oper.wp
    rw [hr X]
    refine Calls.mono (hc X hX) fun e X' he => ?_
    obtain ⟨rfl, hX'⟩ := he
    exact ⟨rfl, hX'⟩⟩, h⟩
theorem wanted_none {o : Oper} {y : Nat → Option Bool} (hg : o.guard = none) : Region.wanted o y = true := by simp [Region.wanted, hg]
end
end Go.Proofs.YtidiojhefjhojaaGreat.Sq
end
section
namespace Go.Proofs.YtidiojhefjhojaaGreat.Sq
open Go Go.RowKit Go.Proofs.YtidiojhefjhojaaGreat.Reg Go.Proofs.YtidiojhefjhojaaGreat.Calm
set_option linter.unusedVariables false
set_option linter.unusedSimpArgs false
section
variable {P : Program} {ops : Array Oper}
/-- What an operation is to the stages: it keeps them from the first to the last that it may meet, or it is the one that ends a stage. -/
inductive Tag | keep (lo hi : Nat) | eff (q : Nat)
/-- The tags fit: E are the operations that end a stage, each behind the one ahead. -/
def fits (ops : Array Oper) (m : Nat) (E : List Nat) (tags : List Tag) : Bool :=
  decide (m ≤ ops.size) && ((List.range E.length).all fun q => match E[q]?, E[q - 1]? with | some k, some k' => q == 0 || (sweep ops k [k]).contains k' | _, _ => false) && (E.all fun k => decide (k < m)) && decide E.Nodup &&
  (List.range m).all fun i => match tags[i]? with
    | none => false
    | some (.eff q) => E[q]? == some i
    | some (.keep lo hi) => !(E.contains i) && (lo == 0 || (match E[lo - 1]? with | some k => (sweep ops i [i]).contains k | none => false)) && (decide (E.length ≤ hi) || (match E[hi]? with | some k => (sweep ops k [k]).contains i | none => false))
/-- What stands listed: just the first j of those that end a stage. -/
def Stage (E : List Nat) (L : Array Bool) (j : Nat) : Prop := j ≤ E.length ∧ ∀ q k, E[q]? = some k → (L.getD k false = true ↔ q < j)
theorem sweep_closed {L : Array Bool} (hc : Closed ops L) : ∀ (n : Nat) (S : List Nat), n ≤ L.size → (∀ k ∈ S, k < L.size ∧ L.getD k true = true) → ∀ k ∈ sweep ops n S, k < L.size ∧ L.getD k true = true
  | 0, S, _, hS, k, hk => hS k hk
  | j + 1, S, hn, hS, k, hk => by
    unfold sweep at hk
    split at hk
    · rename_i hany
      obtain ⟨y, hy, hd⟩ := List.any_eq_true.1 hany
      obtain ⟨oy, hoy, e, he, rfl, hb⟩ := dep_out hd
      obtain ⟨hyl, hy1⟩ := hS y hy
      have h1 := hc y oy hoy (by simpa [Array.getD_eq_getD_getElem?, Array.getElem?_eq_getElem hyl] using hy1) e he hb
      refine sweep_closed hc e.on (e.on :: S) (by omega) (fun x hx => ?_) k hk
      rcases List.mem_cons.1 hx with rfl | hx
      · exact ⟨by omega, h1⟩
      · exact hS x hx
    · exact sweep_closed hc j S (by omega) hS k hk
theorem stage_zero (E : List Nat) (n : Nat) : Stage E (Array.replicate n false) 0 := by
  refine ⟨Nat.zero_le _, fun q k hk => ⟨fun h => ?_, fun h => by omega⟩⟩
  exfalso
  rw [Array.getD_eq_getD_getElem?, Array.getElem?_replicate] at h
  split at h <;> simp at h
structure Fits (ops : Array Oper) (m : Nat) (E : List Nat) (tags : List Tag) : Prop where
  size : m ≤ ops.size
  lt : ∀ k ∈ E, k < m
  inj : E.Nodup
  chain : ∀ q k k', E[q + 1]? = some k → E[q]? = some k' → k' ∈ sweep ops k [k]
  keep : ∀ i lo hi, i < m → tags[i]? = some (.keep lo hi) → i ∉ E ∧ (lo = 0 ∨ ∃ k, E[lo - 1]? = some k ∧ k ∈ sweep ops i [i]) ∧ (E.length ≤ hi ∨ ∃ k, E[hi]? = some k ∧ i ∈ sweep ops k [k])
  eff : ∀ i q, i < m → tags[i]? = some (.eff q) → E[q]? = some i
theorem fits_out {m : Nat} {E : List Nat} {tags : List Tag} (h : fits ops m E tags = true) : Fits ops m E tags := by
  unfold fits at h
  simp only [Bool.and_eq_true, List.all_eq_true, decide_eq_true_eq, List.mem_range] at h
  obtain ⟨⟨⟨⟨h0, h1⟩, h2⟩, h3⟩, h4⟩ := h
  refine ⟨h0, h2, h3, fun q k k' hk hk' => ?_, fun i lo hi him ht => ?_, fun i q him ht => ?_⟩
  · have := h1 (q + 1) (List.getElem?_eq_some_iff.1 hk).1
    rw [hk, show q + 1 - 1 = q from rfl, hk'] at this
    simpa using this
  · have := h4 i him
    rw [ht] at this
    simp only [Bool.and_eq_true, Bool.or_eq_true, Bool.not_eq_true', List.contains_eq_mem, decide_eq_false_iff_not, beq_iff_eq, decide_eq_true_eq] at this
    obtain ⟨⟨a, b⟩, c⟩ := this
    refine ⟨a, ?_, ?_⟩
    · rcases b with b | b
      · exact .inl b
      · cases hk : E[lo - 1]? with
        | none => rw [hk] at b; simp at b
        | some k => rw [hk] at b; exact .inr ⟨k, rfl, by simpa using b⟩
    · rcases c with c | c
      · exact .inl c
      · cases hk : E[hi]? with
        | none => rw [hk] at c; simp at c
        | some k => rw [hk] at c; exact .inr ⟨k, rfl, by simpa using c⟩
  · have := h4 i him
    rw [ht] at this
    simpa using this
theorem Fits.same {m : Nat} {E : List Nat} {tags : List Tag} (h : Fits ops m E tags) {q q' k : Nat} (h1 : E[q]? = some k) (h2 : E[q']? = some k) : q = q' := by
  have a := (List.getElem?_eq_some_iff.1 h1)
  have b := (List.getElem?_eq_some_iff.1 h2)
  exact (List.getElem_inj h.inj).1 (a.2.trans b.2.symm)
/-- An operation at a frame, by its tag. -/
def ComesJ (P : Program) (ops : Array Oper) (J : Nat → World → Prop) (a : Act) (o : Oper) (v : Value) : Tag → Prop
  | .keep lo hi => (Region.wanted o (yielded ops a.tmps) = true ∧ ∀ j, lo ≤ j → j ≤ hi → ∀ X, J j X → o.wp P a X (fun a' X' => a' = a.put o.dst v ∧ J j X') (fun _ _ _ => False)) ∨ (Region.wanted o (yielded ops a.tmps) = false ∧ v = undef)
  | .eff q => Region.wanted o (yielded ops a.tmps) = true ∧ ∀ X, J q X → o.wp P a X (fun a' X' => a' = a.put o.dst v ∧ J (q + 1) X') (fun _ _ _ => False)
def SeqJ (P : Program) (ops : Array Oper) (J : Nat → World → Prop) : List Tag → List Oper → Act → (Act → Prop) → Prop
  | _, [], a, K => K a
  | [], _ :: _, _, _ => False
  | t :: ts, o :: r, a, K => ∃ v, ComesJ P ops J a o v t ∧ SeqJ P ops J ts r (a.put o.dst v) K
theorem seqJ_out {J : Nat → World → Prop} {K : Act → Prop} : ∀ (l : List Oper) (ts : List Tag) (a : Act), SeqJ P ops J ts l a K → ∃ vs : List Value, vs.length = l.length ∧ K (fr a (l.zip vs)) ∧
    ∀ (i : Nat) (o : Oper) (v : Value), l[i]? = some o → vs[i]? = some v → ∃ t, ts[i]? = some t ∧ ComesJ P ops J (fr a ((l.zip vs).take i)) o v t
  | [], _, a, h => ⟨[], rfl, by cases ‹List Tag› <;> exact h, fun i o v ho => by simp at ho⟩
  | _ :: _, [], _, h => h.elim
  | o :: r, t :: ts, a, ⟨v, hc, h⟩ => by
    obtain ⟨vs, hl, hK, hall⟩ := seqJ_out r ts _ h
    refine ⟨v :: vs, by simp [hl], hK, fun i o' v' ho hv => ?_⟩
    cases i with
    | zero =>
      simp only [List.getElem?_cons_zero, Option.some.injEq] at ho hv
      subst ho hv
      exact ⟨t, rfl, hc⟩
    | succ i =>
      simp only [List.getElem?_cons_succ] at ho hv
      exact hall i o' v' ho hv
/-- What is asked of an operation at the final frame. -/
def KeepsJ (P : Program) (ops : Array Oper) (fin : Act) (J : Nat → World → Prop) (o : Oper) : Tag → Prop
  | .keep lo hi => ∀ j, lo ≤ j → j ≤ hi → ∀ X, J j X → if Region.wanted o (yielded ops fin.tmps) then o.wp P fin X (fun a' X' => a' = fin ∧ J j X') (fun _ _ _ => False) else fin.put o.dst undef = fin
  | .eff q => ∀ X, J q X → Region.wanted o (yielded ops fin.tmps) = true ∧ o.wp P fin X (fun a' X' => a' = fin ∧ J (q + 1) X') (fun _ _ _ => False)
theorem keep_stepJ {m : Nat} {L : Array Bool} {a fin : Act} {i : Nat} {o : Oper} {w : World} {I' : World → Prop} {Q : Exit → Act → World → Prop} {K : Act → World → Prop} (hp : parted ops m = true) (ho : ops[i]? = some o) (him : i < m)
    (hdep : ∀ e ∈ o.after, Region.binds .any e = true → L.getD e.on true = true) (h : AgreeM ops m L a fin) (hdo : if Region.wanted o (yielded ops fin.tmps) then o.wp P fin w (fun a' X' => a' = fin ∧ I' X') (fun _ _ _ => False) else fin.put o.dst undef = fin ∧ I' w)
    (hK : ∀ a' w', AgreeM ops m (L.setIfInBounds i true) a' fin → I' w' → K a' w') : wpOp P ops Q i K a w := by
  obtain ⟨_, hs, hl, _⟩ := parted_at hp ho
  obtain ⟨hex, hwa⟩ := looks_eq (a := a) (fin := fin) hs (fun t ht => h.slot t fun j oj hjm hj hd => by
    obtain ⟨e, he, rfl, hb⟩ := hl him t ht j oj hjm hj hd
    exact hdep e he hb)
  unfold wpOp
  simp only [ho]
  rw [hwa]
  split
  · rename_i hw'
    rw [if_pos hw'] at hdo
    refine .inl ?_
    unfold Oper.wp at *
    rw [hex]
    generalize (execOp fin.eval o).run P w = r at *
    cases r with
    | ok n w' =>
      cases n <;> simp only [Oper.upon] at hdo ⊢
      case value u => exact hK _ _ (agreeM_put ho h hdo.1) hdo.2
      case skip => exact hK _ _ (agreeM_put ho h hdo.1) hdo.2
      case defer d =>
        exfalso
        have h1 := congrArg Act.defers hdo.1
        have h2 : (({ fin with defers := d :: fin.defers } : Act).put o.dst undef).defers = d :: fin.defers := by cases o.dst <;> rfl
        rw [h2] at h1
        have := congrArg List.length h1
        simp at this
      case enter f args =>
        refine Calls.mono hdo fun e w'' he => ?_
        cases e with
        | returned u => exact hK _ _ (agreeM_put ho h he.1) he.2
        | panicked c => exact he.elim
        | outgrown => obtain ⟨_, _, hf⟩ := he; exact hf.elim
      case row row args => exact Rows.mono hdo fun u w'' he => hK _ _ (agreeM_put ho h he.1) he.2
    | halt x w' =>
      cases x <;> simp only [Oper.upon] at hdo ⊢
  · rename_i hw'
    rw [if_neg hw'] at hdo
    exact hK _ _ (agreeM_put ho h hdo.1) hdo.2
theorem keepsJ_of {m : Nat} {l : List Oper} {vs : List Value} {a : Act} {i : Nat} {o : Oper} {v : Value} {J : Nat → World → Prop} {t : Tag} (hp : parted ops m = true) (hlm : l.length ≤ m) (hops : ∀ (j : Nat) (oj : Oper), l[j]? = some oj → ops[j]? = some oj)
    (hvs : vs.length = l.length) (ho : l[i]? = some o) (hv : vs[i]? = some v) (hc : ComesJ P ops J (fr a ((l.zip vs).take i)) o v t) : KeepsJ P ops (fr a (l.zip vs)) J o t := by
  have hil : i < l.length := (List.getElem?_eq_some_iff.1 ho).1
  have him : i < m := Nat.lt_of_lt_of_le hil hlm
  obtain ⟨hb, hs, hl, hd, _⟩ := parted_at hp (hops i o ho)
  have hz : (l.zip vs)[i]? = some (o, v) := by rw [List.getElem?_zip_eq_some]; exact ⟨ho, hv⟩
  have hiz : i < (l.zip vs).length := (List.getElem?_eq_some_iff.1 hz).1
  have hsplit : l.zip vs = (l.zip vs).take i ++ ((o, v) :: (l.zip vs).drop (i + 1)) := by
    have h1 : (l.zip vs).drop i = (o, v) :: (l.zip vs).drop (i + 1) := by
      rw [List.drop_eq_getElem_cons hiz]; congr 1
      have := List.getElem?_eq_getElem hiz; rw [hz] at this; exact (Option.some.inj this).symm
    rw [← h1, List.take_append_drop]
  have hfin : fr a (l.zip vs) = fr ((fr a ((l.zip vs).take i)).put o.dst v) ((l.zip vs).drop (i + 1)) := by
    conv => lhs; rw [hsplit]
    rw [fr_append]; rfl
  -- who stands behind
  have behind : ∀ p ∈ (l.zip vs).drop (i + 1), ∃ j, i < j ∧ j < m ∧ ops[j]? = some p.1 := by
    intro p hp'
    obtain ⟨k, hk⟩ := List.mem_iff_getElem?.1 hp'
    rw [List.getElem?_drop, List.getElem?_zip_eq_some] at hk
    have hkl : i + 1 + k < l.length := (List.getElem?_eq_some_iff.1 hk.1).1
    exact ⟨i + 1 + k, by omega, by omega, hops _ _ hk.1⟩
  generalize hai : fr a ((l.zip vs).take i) = ai at *
  generalize hq : (l.zip vs).drop (i + 1) = q at *
  have hsz : ai.tmps.size = (fr a (l.zip vs)).tmps.size := by rw [hfin, fr_size]; cases h : o.dst <;> simp [Act.put]
  have seen : ∀ t ∈ o.looksAt ops, ai.tmps[t]? = (fr a (l.zip vs)).tmps[t]? := by
    intro t ht
    have hno : ∀ (j : Nat) (oj : Oper), i ≤ j → j < m → ops[j]? = some oj → oj.dst ≠ some t := by
      intro j oj hij hjm hj he
      obtain ⟨e, he', rfl, hbd⟩ := hl him t ht j oj hjm hj he
      have := hb e he' hbd
      omega
    rw [hfin, fr_other t q _ fun p hp' he => by
      obtain ⟨j, hij, hjm, hj⟩ := behind p hp'
      exact hno j p.1 (by omega) hjm hj he]
    have h1 := hno i o (Nat.le_refl _) him (hops i o ho)
    cases hdst : o.dst with
    | none => rfl
    | some d =>
      have : d ≠ t := fun e => h1 (by rw [hdst, e])
      simp [Act.put, Array.getElem?_setIfInBounds_ne this]
  have hput : (fr a (l.zip vs)).put o.dst v = fr a (l.zip vs) := by
    cases hdst : o.dst with
    | none => rfl
    | some d =>
      have hslot : (fr a (l.zip vs)).tmps[d]? = (ai.tmps.setIfInBounds d v)[d]? := by
        rw [hfin, fr_other d q _ fun p hp' he => by
          obtain ⟨j, hij, hjm, hj⟩ := behind p hp'
          exact hd him j p.1 hjm (by omega) hj d he hdst, hdst]
        rfl
      have : (fr a (l.zip vs)).tmps.setIfInBounds d v = (fr a (l.zip vs)).tmps := by
        apply Array.ext_getElem?
        intro t
        by_cases e : d = t
        · subst e
          rw [hslot, Array.getElem?_setIfInBounds_self, Array.getElem?_setIfInBounds_self, hsz]
        · rw [Array.getElem?_setIfInBounds_ne e]
      show ({ (fr a (l.zip vs)) with tmps := (fr a (l.zip vs)).tmps.setIfInBounds d v } : Act) = _
      rw [this]
  obtain ⟨hex, hwa⟩ := looks_eq (a := ai) (fin := fr a (l.zip vs)) hs seen
  cases t with
  | keep lo hi =>
    intro j h1 h2 X hX
    rcases hc with ⟨hw, h⟩ | ⟨hw, rfl⟩
    · rw [if_pos (by rw [← hwa]; exact hw)]
      exact wp_move hex hsz hput (h j h1 h2 X hX)
    · rw [if_neg (by rw [← hwa, hw]; decide)]
      exact hput
  | eff q =>
    intro X hX
    exact ⟨by rw [← hwa]; exact hc.1, wp_move hex hsz hput (hc.2 X hX)⟩
theorem regionJ {l : List Oper} {id : Nat} {a : Act} {w : World} {J : Nat → World → Prop} {Q : Exit → Act → World → Prop} (hm : P.follows .mixedOrders = true) (m : Nat) (E : List Nat) (tags : List Tag) (hI : J 0 { w with drawn := w.drawn + 1 })
    (hp : parted l.toArray m = true) (hf : fits l.toArray m E tags = true) (h : ∀ (ops : Array Oper) (K : Act → Prop), ops = l.toArray → RowKit.Hid (∀ fin, (∀ w', J E.length w' → wpList P ops Q (l.drop m) fin w') → K fin) → SeqJ P ops J tags (l.take m) a K) : (Code.region id l.toArray true).wp P Q a w := by
  have hsz : l.toArray.size = l.length := by simp
  replace h := h _ _ rfl (Lib.hid fun _ h => h)
  obtain ⟨vs, hvs, hrest, hcomes⟩ := seqJ_out _ _ _ h
  have hkeep : ∀ (i : Nat) (o : Oper), (l.take m)[i]? = some o → ∃ t, tags[i]? = some t ∧ KeepsJ P l.toArray (fr a ((l.take m).zip vs)) J o t := by
    intro i o hi
    have hil : i < (l.take m).length := (List.getElem?_eq_some_iff.1 hi).1
    have hv : vs[i]? = some vs[i] := List.getElem?_eq_getElem (by omega)
    obtain ⟨t, ht, hct⟩ := hcomes i o _ hi hv
    refine ⟨t, ht, keepsJ_of (m := m) hp (by simp; omega) (fun j oj hj => ?_) hvs hi hv hct⟩
    have : (l.take m)[j]? = l[j]? := by
      rw [List.getElem?_take]
      split
      · rfl
      · rename_i hc
        have := (List.getElem?_eq_some_iff.1 hj).1
        simp at this
        omega
    rw [this] at hj
    simpa using hj
  have hslots : ∀ t, (∀ (j : Nat) (o : Oper), j < m → l.toArray[j]? = some o → o.dst ≠ some t) → (fr a ((l.take m).zip vs)).tmps[t]? = a.tmps[t]? := by
    intro t ht
    refine fr_other t _ a fun p hp' => ?_
    obtain ⟨k, hk⟩ := List.mem_iff_getElem?.1 hp'
    rw [List.getElem?_zip_eq_some] at hk
    have h1 := hk.1
    rw [List.getElem?_take] at h1
    split at h1
    · rename_i hkm
      exact ht k p.1 hkm (by simpa using h1)
    · cases h1
  have hfd : (fr a ((l.take m).zip vs)).defers = a.defers := fr_defers _ _
  have hfs : (fr a ((l.take m).zip vs)).tmps.size = a.tmps.size := fr_size _ _
  clear hcomes h
  generalize fr a ((l.take m).zip vs) = fin at *
  refine wp_region_any hm ?_
  let Inv : Array Bool → Act → World → Prop := fun L a' w => Closed l.toArray L ∧ (((∀ j, m ≤ j → j < l.length → L.getD j true = false) ∧ AgreeM l.toArray m L a' fin ∧ ∃ s, Stage E L s ∧ J s w) ∨ (∃ k, m < k ∧ k ≤ l.length ∧ (∀ j, j < l.length → (L.getD j true = true ↔ j < k)) ∧ wpList P l.toArray Q (l.drop k) a' w))
  have hset : ∀ (L : Array Bool) (i j : Nat), L.size = l.length → j < l.length → ((L.setIfInBounds i true).getD j true = true ↔ (j = i ∨ L.getD j true = true)) := by
    intro L i j hs hj
    by_cases e : i = j
    · subst e; simp [Array.getD_eq_getD_getElem?, hs, hj]
    · have : j ≠ i := fun h => e h.symm
      simp [Array.getD_eq_getD_getElem?, Array.getElem?_setIfInBounds_ne e, this]
  refine any_invB (Inv := Inv) (fun i o ho => (parted_at hp ho).1) ?_ ?_ _ _ _ _ (by simp) (left_le _ _) ?_
  · intro i o ho L a' w hL hLi hdep hInv
    have hLo := hL
    rw [hsz] at hL
    have hil : i < l.length := by have := (Array.getElem?_eq_some_iff.1 ho).1; simpa using this
    have hol : l[i]? = some o := by simpa using ho
    obtain ⟨_, _, _, _, htail⟩ := parted_at hp ho
    obtain ⟨hcl, hInv⟩ := hInv
    have hcl2 := hcl.set ho hdep
    rcases hInv with ⟨hnone, hag, hb⟩ | ⟨k, hmk, hkl, hk, hrun⟩
    · by_cases him : i < m
      · obtain ⟨t, ht, hkt⟩ := hkeep i o (by rw [List.getElem?_take, if_pos him]; exact hol)
        obtain ⟨s, hs, hJ⟩ := hb
        have F := fits_out hf
        have hnone' : ∀ j, m ≤ j → j < l.length → (L.setIfInBounds i true).getD j true = false := fun j hj hjl => by
          have e : i ≠ j := by omega
          have := hnone j hj hjl
          simpa [Array.getD_eq_getD_getElem?, Array.getElem?_setIfInBounds_ne e] using this
        have hil' : i < L.size := by omega
        have hLf : L.getD i false = false := by simpa [Array.getD_eq_getD_getElem?, Array.getElem?_eq_getElem hil'] using hLi
        have inb : ∀ k ∈ E, k < L.size := fun k hk => by have h1 := F.lt k hk; have h2 := F.size; omega
        have flip : ∀ k, k < L.size → (L.getD k true = true ↔ L.getD k false = true) := fun k hk => by simp [Array.getD_eq_getD_getElem?, Array.getElem?_eq_getElem hk]
        have ahead : ∀ k ∈ sweep l.toArray i [i], k = i ∨ L.getD k true = true := sweep_listed ho hcl hLo hdep i [i] (by omega) (fun x hx => .inl (List.mem_singleton.1 hx))
        cases t with
        | keep lo hi =>
          obtain ⟨hE, hlo, hhi⟩ := F.keep i lo hi him ht
          have h1 : lo ≤ s := by
            rcases hlo with rfl | ⟨k, hk, hsw⟩
            · omega
            · have hkE := List.mem_of_getElem? hk
              have h3 := (ahead k hsw).resolve_left fun e => hE (by rw [← e]; exact hkE)
              have h4 := (hs.2 _ k hk).1 ((flip k (inb k hkE)).1 h3)
              omega
          have h2 : s ≤ hi := by
            rcases hhi with h | ⟨k, hk, hsw⟩
            · exact Nat.le_trans hs.1 h
            · rcases Nat.lt_or_ge hi s with h | h
              · exfalso
                have hkl := inb k (List.mem_of_getElem? hk)
                have h3 := (hs.2 hi k hk).2 h
                have h4 := (sweep_closed hcl k [k] (by omega) (fun x hx => by obtain rfl := List.mem_singleton.1 hx; exact ⟨hkl, (flip _ hkl).2 h3⟩) i hsw).2
                rw [hLi] at h4; cases h4
              · exact h
          have hdo := hkt s h1 h2 w hJ
          refine keep_stepJ (I' := J s) hp ho him hdep hag ?_ fun a'' w'' ha'' hb'' => ⟨hcl2, .inl ⟨hnone', ha'', s, ⟨hs.1, fun q k hk => ?_⟩, hb''⟩⟩
          · split
            · rename_i hw'; rw [if_pos hw'] at hdo; exact hdo
            · rename_i hw'; rw [if_neg hw'] at hdo; exact ⟨hdo, hJ⟩
          · have hki : i ≠ k := fun e => hE (by rw [e]; exact List.mem_of_getElem? hk)
            rw [← hs.2 q k hk]
            simp [Array.getD_eq_getD_getElem?, Array.getElem?_setIfInBounds_ne hki]
        | eff q =>
          have hEi := F.eff i q him ht
          have hsq : s = q := by
            have h1 : ¬ q < s := fun h => by have := (hs.2 q i hEi).2 h; rw [hLf] at this; cases this
            cases q with
            | zero => omega
            | succ q =>
              have hql : q < E.length := by have := (List.getElem?_eq_some_iff.1 hEi).1; omega
              have hk : E[q]? = some E[q] := List.getElem?_eq_getElem hql
              have hsw := F.chain q i E[q] hEi hk
              rcases ahead _ hsw with e | h2
              · rw [e] at hk
                have := F.same hk hEi
                omega
              · have h4 := (hs.2 q _ hk).1 ((flip _ (inb _ (List.mem_of_getElem? hk))).1 h2)
                omega
          subst hsq
          obtain ⟨hwn, hdo⟩ := hkt w hJ
          refine keep_stepJ (I' := J (s + 1)) hp ho him hdep hag (by rw [if_pos hwn]; exact hdo) fun a'' w'' ha'' hb'' => ⟨hcl2, .inl ⟨hnone', ha'', s + 1, ⟨?_, fun q' k hk => ?_⟩, hb''⟩⟩
          · have := (List.getElem?_eq_some_iff.1 hEi).1; omega
          · by_cases e : i = k
            · subst e
              have hq := F.same hk hEi
              subst hq
              simp [Array.getD_eq_getD_getElem?, hil']
            · have hne : q' ≠ s := fun h => by subst h; rw [hEi] at hk; exact e (Option.some.inj hk)
              have := hs.2 q' k hk
              rw [show (L.setIfInBounds i true).getD k false = L.getD k false by simp [Array.getD_eq_getD_getElem?, Array.getElem?_setIfInBounds_ne e], this]
              omega
      · -- the first of the rest
        have hmi : m ≤ i := by omega
        have hall : ∀ j, j < i → L.getD j true = true := lastAfter_all (htail hmi) ho hcl hLo hdep
        have him2 : i = m := by
          rcases Nat.lt_or_ge m i with h | h
          · have := hall m h; rw [hnone m (Nat.le_refl _) (by omega)] at this; cases this
          · omega
        subst him2
        have hfin : a' = fin := by
          have ht : a'.tmps = fin.tmps := Array.ext_getElem? fun t => hag.slot t fun j o' hj _ _ => hall j hj
          have hd := hag.defers
          cases a'; cases hq : fin; simp_all
        subst hfin
        obtain ⟨s, hs, hJ⟩ := hb
        have F := fits_out hf
        have hse : s = E.length := by
          rcases Nat.lt_or_ge s E.length with h | h
          · exfalso
            have hk : E[s]? = some E[s] := List.getElem?_eq_getElem h
            have h1 := F.lt _ (List.mem_of_getElem? hk)
            have h2 := F.size
            have h3 := hall _ h1
            have h4 : E[s] < L.size := by omega
            have := (hs.2 s _ hk).1 (by simpa [Array.getD_eq_getD_getElem?, Array.getElem?_eq_getElem h4] using h3)
            omega
          · have := hs.1; omega
        subst hse
        have hr := hrest w hJ
        have hdrop : l.drop i = o :: l.drop (i + 1) := by
          rw [List.drop_eq_getElem_cons hil]; congr 1
          have := List.getElem?_eq_getElem hil; rw [hol] at this; exact (Option.some.inj this).symm
        rw [hdrop] at hr
        refine wpOp_mono (fun a'' w'' h'' => ⟨hcl2, .inr ⟨i + 1, by omega, by omega, fun j hj => ?_, h''⟩⟩) (wpOp_tail ho hr)
        rw [hset L i j hL hj]
        constructor
        · rintro (h | h)
          · omega
          · rcases Nat.lt_or_ge j i with h1 | h1
            · omega
            · rw [hnone j h1 hj] at h; cases h
        · intro h
          rcases Nat.lt_or_ge j i with h1 | h1
          · exact .inr (hall j h1)
          · exact .inl (by omega)
    · -- further on
      have hki : k ≤ i := by
        rcases Nat.lt_or_ge i k with h | h
        · have := (hk i hil).2 h; rw [hLi] at this; cases this
        · exact h
      have hall : ∀ j, j < i → L.getD j true = true := lastAfter_all (htail (by omega)) ho hcl hLo hdep
      have hik : i = k := by
        rcases Nat.lt_or_ge k i with h | h
        · have := (hk k (by omega)).1 (hall k h); omega
        · omega
      subst hik
      have hdrop : l.drop i = o :: l.drop (i + 1) := by
        rw [List.drop_eq_getElem_cons hil]; congr 1
        have := List.getElem?_eq_getElem hil; rw [hol] at this; exact (Option.some.inj this).symm
      rw [hdrop] at hrun
      refine wpOp_mono (fun a'' w'' h'' => ⟨hcl2, .inr ⟨i + 1, by omega, by omega, fun j hj => ?_, h''⟩⟩) (wpOp_tail ho hrun)
      rw [hset L i j hL hj]
      constructor
      · rintro (h | h)
        · omega
        · have := (hk j hj).1 h; omega
      · intro h
        rcases Nat.lt_or_ge j i with h1 | h1
        · exact .inr (hall j h1)
        · exact .inl (by omega)
  · intro L a' w hL hall hInv
    rw [hsz] at hall
    rcases hInv.2 with ⟨hnone, hag, hb⟩ | ⟨k, hmk, hkl, hk, hrun⟩
    · have hml : l.length ≤ m := by
        rcases Nat.lt_or_ge m l.length with h | h
        · have h1 := hnone m (Nat.le_refl _) h; rw [hall m h] at h1; cases h1
        · exact h
      have hfin : a' = fin := by
        have ht : a'.tmps = fin.tmps := Array.ext_getElem? fun t => hag.slot t fun j o' _ hj _ => hall j (by have := (Array.getElem?_eq_some_iff.1 hj).1; simpa using this)
        have hd := hag.defers
        cases a'; cases hq : fin; simp_all
      subst hfin
      obtain ⟨s, hs, hJ⟩ := hb
      have F := fits_out hf
      have hse : s = E.length := by
        rcases Nat.lt_or_ge s E.length with h | h
        · exfalso
          have hk : E[s]? = some E[s] := List.getElem?_eq_getElem h
          have h1 := F.lt _ (List.mem_of_getElem? hk)
          have h2 := F.size
          have h3 := hall E[s] (by omega)
          have h4 : E[s] < L.size := by omega
          have := (hs.2 s _ hk).1 (by simpa [Array.getD_eq_getD_getElem?, Array.getElem?_eq_getElem h4] using h3)
          omega
        · have := hs.1; omega
      subst hse
      have hr := hrest w hJ
      rw [List.drop_of_length_le hml] at hr
      exact hr
    · have : k = l.length := by
        rcases Nat.lt_or_ge k l.length with h | h
        · have h1 := (hk k h).1 (hall k h); omega
        · omega
      subst this
      rw [List.drop_length] at hrun
      exact hrun
  · refine ⟨fun k o _ hk => (by exfalso; rw [Array.getD_eq_getD_getElem?, Array.getElem?_replicate] at hk; split at hk <;> simp at hk), .inl ⟨fun j hj hjl => by simp [Array.getD_eq_getD_getElem?, hjl], ⟨hfd.symm, hfs.symm, fun t ht => (hslots t fun j o hj ho he => ?_).symm⟩, 0, stage_zero E _, hI⟩⟩
    have h2 := ht j o hj ho he
    have hjl : j < l.length := by have := (Array.getElem?_eq_some_iff.1 ho).1; simpa using this
    simp [Array.getD_eq_getD_getElem?, hjl] at h2
end
end Go.Proofs.YtidiojhefjhojaaGreat.Sq
end
section
namespace Go.Proofs.YtidiojhefjhojaaGreat.Sq
open Go Go.RowKit Go.Proofs.YtidiojhefjhojaaGreat.Reg Go.Proofs.YtidiojhefjhojaaGreat.Calm Go.Proofs.YtidiojhefjhojaaGreat.Step
set_option linter.unusedVariables false
set_option linter.unusedSimpArgs false
section
variable {P : Program} {ops : Array Oper} {J : Nat → World → Prop} {o : Oper} {r : List Oper} {a : Act} {K : Act → Prop} {ts : List Tag} {lo hi q : Nat}
theorem seqJ_nil (h : K a) : SeqJ P ops J ts [] a K := by cases ts <;> exact h
theorem seqJ_val {v : Value} (hw : Region.wanted o (yielded ops a.tmps) = true) (hr : ∀ j, lo ≤ j → j ≤ hi → ∀ X, J j X → (execOp a.eval o).run P X = .ok (.value v) X) (h : SeqJ P ops J ts r (a.put o.dst v) K) : SeqJ P ops J (.keep lo hi :: ts) (o :: r) a K :=
  ⟨v, .inl ⟨hw, fun j h1 h2 X hX => by unfold Oper.wp; rw [hr j h1 h2 X hX]; exact ⟨rfl, hX⟩⟩, h⟩
theorem seqJ_pure {v : Value} (hg : o.guard = none) (hr : ∀ X, (execOp a.eval o).run P X = .ok (.value v) X) (h : SeqJ P ops J ts r (a.put o.dst v) K) : SeqJ P ops J (.keep lo hi :: ts) (o :: r) a K :=
  seqJ_val (by simp [Region.wanted, hg]) (fun _ _ _ X _ => hr X) h
theorem seqJ_move {x : Operand} (hg : o.guard = none) (ho : o.op = .move x) (h : SeqJ P ops J ts r (a.put o.dst (a.eval x)) K) : SeqJ P ops J (.keep lo hi :: ts) (o :: r) a K :=
  seqJ_pure hg (fun X => by simp [execOp, ho]) h
theorem seqJ_check {x : Operand} {ad : Addr} (hg : o.guard = none) (ho : o.op = .nilCheck x) (hx : a.eval x = .pointer (some ad)) (h : SeqJ P ops J ts r (a.put o.dst (.pointer (some ad))) K) : SeqJ P ops J (.keep lo hi :: ts) (o :: r) a K :=
  seqJ_pure hg (fun X => by simp only [execOp, ho, hx]; rfl) h
theorem seqJ_load {t : TypeId} {x : Operand} {g i : Nat} {cs : Array Value} {T : TypeId} {v : Value} (hB : ∀ j, lo ≤ j → j ≤ hi → ∀ X, J j X → Blk X g cs T) (hw : Region.wanted o (yielded ops a.tmps) = true) (ho : o.op = .load t x) (hx : a.eval x = .pointer (some ⟨g, i, none⟩)) (ht : plainT P t = true) (hv : cs[i]? = some v)
    (h : SeqJ P ops J ts r (a.put o.dst v) K) : SeqJ P ops J (.keep lo hi :: ts) (o :: r) a K :=
  seqJ_val hw (fun j h1 h2 X hX => by
    have := run_load1 (P := P) ht (((hB j h1 h2 X hX).cell i).trans hv)
    simp [execOp, ho, hx, this, Result.andThen]) h
theorem seqJ_cell {t : TypeId} {x : Operand} {ad : Addr} {v : Value} (hB : ∀ j, lo ≤ j → j ≤ hi → ∀ X, J j X → X.cell? ad = some v) (hw : Region.wanted o (yielded ops a.tmps) = true) (ho : o.op = .load t x) (hx : a.eval x = .pointer (some ad)) (ht : plainT P t = true)
    (h : SeqJ P ops J ts r (a.put o.dst v) K) : SeqJ P ops J (.keep lo hi :: ts) (o :: r) a K :=
  seqJ_val hw (fun j h1 h2 X hX => by
    have := run_load1 (P := P) ht (hB j h1 h2 X hX)
    simp [execOp, ho, hx, this, Result.andThen]) h
theorem seqJ_row {t : TypeId} {x : Operand} {g k : Nat} {cs : Nat → Array Value} {ds : Array Value} {T : TypeId} {d : TypeDesc} (hB : ∀ j, lo ≤ j → j ≤ hi → ∀ X, J j X → Blk X g (cs j) T) (hw : Region.wanted o (yielded ops a.tmps) = true) (ho : o.op = .load t x) (hx : a.eval x = .pointer (some ⟨g, k, none⟩)) (hr : ∀ j, Row (cs j) k ds) (hu : P.underlying t = some d)
    (hd : d.isRow = true) (hz : (P.info? t).map (·.size) = some ds.size) (h : SeqJ P ops J ts r (a.put o.dst (.agg ds)) K) : SeqJ P ops J (.keep lo hi :: ts) (o :: r) a K :=
  seqJ_val hw (fun j h1 h2 X hX => by
    have h3 := run_loadAt_mid (P := P) X g k t ds.toList d (fun n v hv => ((hB j h1 h2 X hX).cell (k + n)).trans (hr j n v hv)) hu hd (by simpa using hz)
    simp [execOp, ho, hx, h3, Result.andThen]) h
theorem seqJ_call {args : Array Value} {v : Value} (f : FuncId) (_ : calleeOf o = some f) (hw : Region.wanted o (yielded ops a.tmps) = true) (hr : ∀ X, (execOp a.eval o).run P X = .ok (.enter f args) X)
    (hc : ∀ j, lo ≤ j → j ≤ hi → ∀ X, J j X → Calls P f args X fun e X' => e = .returned v ∧ J j X') (h : SeqJ P ops J ts r (a.put o.dst v) K) : SeqJ P ops J (.keep lo hi :: ts) (o :: r) a K :=
  ⟨v, .inl ⟨hw, fun j h1 h2 X hX => by
    unfold Oper.wp
    rw [hr X]
    refine Calls.mono (hc j h1 h2 X hX) fun e X' he => ?_
    obtain ⟨rfl, hX'⟩ := he
    exact ⟨rfl, hX'⟩⟩, h⟩
/-- A call that ends a stage. -/
theorem seqJ_turn {args : Array Value} {v : Value} (f : FuncId) (_ : calleeOf o = some f) (hw : Region.wanted o (yielded ops a.tmps) = true) (hr : ∀ X, (execOp a.eval o).run P X = .ok (.enter f args) X)
    (hc : ∀ X, J q X → Calls P f args X fun e X' => e = .returned v ∧ J (q + 1) X') (h : SeqJ P ops J ts r (a.put o.dst v) K) : SeqJ P ops J (.eff q :: ts) (o :: r) a K :=
  ⟨v, ⟨hw, fun X hX => by
    unfold Oper.wp
    rw [hr X]
    refine Calls.mono (hc X hX) fun e X' he => ?_
    obtain ⟨rfl, hX'⟩ := he
    exact ⟨rfl, hX'⟩⟩, h⟩
/-- A store that ends a stage. -/
theorem seqJ_store {t : TypeId} {x y : Operand} {g i : Nat} {cs : Array Value} {T : TypeId} {v : Value} (hB : ∀ X, J q X → Blk X g cs T) (hg : o.guard = none) (ho : o.op = .store t x y) (hn : o.dst = none) (hx : a.eval x = .pointer (some ⟨g, i, none⟩)) (hy : a.eval y = v) (ht : plainT P t = true) (hv : v.oneCell' = true) (hi' : Nat.blt i cs.size = true)
    (hJ : ∀ X X', J q X → Blk X' g (cs.setIfInBounds i v) T → Mod (One g) X X' → J (q + 1) X') (h : SeqJ P ops J ts r a K) : SeqJ P ops J (.eff q :: ts) (o :: r) a K := by
  have hi : i < cs.size := Nat.le_of_ble_eq_true hi'
  refine ⟨undef, ⟨by simp [Region.wanted, hg], fun X hX => ?_⟩, by rw [hn]; exact h⟩
  have := run_store1 (P := P) ht hv (((hB X hX).cell i).trans (Array.getElem?_eq_getElem hi)) ((hB X hX).frozen i)
  unfold Oper.wp
  simp [execOp, ho, hx, hy, this, Result.andThen]
  simp only [Oper.upon, hn, Act.put]
  exact ⟨trivial, hJ X _ hX (setCell_out _ _ _ _ _ _ (hB X hX)) (setCell_mod _ _ _ _)⟩
/-- A store of a row that ends a stage. -/
theorem seqJ_storeRow {t : TypeId} {x y : Operand} {g k : Nat} {cs vs : Array Value} {T : TypeId} (hB : ∀ X, J q X → Blk X g cs T) (hg : o.guard = none) (ho : o.op = .store t x y) (hn : o.dst = none) (hx : a.eval x = .pointer (some ⟨g, k, none⟩)) (hy : a.eval y = .agg vs) (hi : (P.info? t).map (·.size) = some vs.size)
    (hs : Nat.ble (k + vs.size) cs.size = true) (h1 : vs.toList.all (·.oneCell') = true)
    (hJ : ∀ X X', J q X → Blk X' g (lays cs k vs.toList) T → Mod (One g) X X' → J (q + 1) X') (h : SeqJ P ops J ts r a K) : SeqJ P ops J (.eff q :: ts) (o :: r) a K := by
  have hle := Nat.le_of_ble_eq_true hs
  refine ⟨undef, ⟨by simp [Region.wanted, hg], fun X hX => ?_⟩, by rw [hn]; exact h⟩
  refine wp_store_mid t x y ho g k vs hx hy (fun j hj => ⟨?_, (hB X hX).frozen _⟩) hi (by rw [← Array.all_toList]; exact h1) ?_
  · rw [(hB X hX).cell, Array.getElem?_eq_getElem (by omega)]; rfl
  · exact ⟨rfl, hJ X _ hX (setCells_out g T _ k cs X (hB X hX)) (setCells_mod g _ k X)⟩
end
end Go.Proofs.YtidiojhefjhojaaGreat.Sq
end
section
namespace Go.Proofs.YtidiojhefjhojaaGreat.Hart
open Go Go.RowKit Go.Proofs.YtidiojhefjhojaaGreat.Step Go.Proofs.YtidiojhefjhojaaGreat.Enc
set_option linter.unusedVariables false
set_option linter.unusedSimpArgs false
set_option maxRecDepth 100000
theorem msk_w (v : Int) : U64 (msk v) := by
  have := (BitVec.ofInt 64 v &&& BitVec.ofInt 64 546).isLt
  refine ⟨?_⟩
  show 0 ≤ IntKind.u64.wrap _ ∧ IntKind.u64.wrap _ < _
  show 0 ≤ (_ : Int) % 18446744073709551616 ∧ (_ : Int) % 18446744073709551616 < 18446744073709551616
  omega
theorem ord_stvec {h : Hrt} (hf : Fit h) : U64 (ord h).stvec := ⟨by have := hf.stvec.out; show 0 ≤ h.stvec / 4 * 4 + h.stvec % 2 ∧ h.stvec / 4 * 4 + h.stvec % 2 < 18446744073709551616; omega⟩
theorem and_bv (x : Int) : msk x = ((BitVec.ofInt 64 x &&& BitVec.ofInt 64 546).toNat : Int) := by
  show IntKind.u64.wrap ((BitVec.ofInt 64 x &&& BitVec.ofInt 64 546).toNat : Int) = _
  have := (BitVec.ofInt 64 x &&& BitVec.ofInt 64 546).isLt
  show (_ : Int) % 18446744073709551616 = _
  omega
theorem msk_msk (x : Int) : msk (msk x) = msk x := by
  rw [and_bv (msk x), and_bv x, BitVec.ofInt_natCast, BitVec.ofNat_toNat, BitVec.setWidth_eq, BitVec.and_assoc, BitVec.and_self]
theorem ord_fit {h : Hrt} (hf : Fit h) : Fit (ord h) where
  x := fun i hi => by
    show U64 (xup h.x 0 0 i)
    unfold xup
    split
    · exact ⟨by decide, by decide⟩
    · exact hf.x i hi
  pc := ⟨by have := hf.pc.out; show 0 ≤ h.pc / 2 * 2 ∧ h.pc / 2 * 2 < 18446744073709551616; omega⟩
  stvec := ord_stvec hf
  sscr := hf.sscr
  sepc := ⟨by have := hf.sepc.out; show 0 ≤ h.sepc / 2 * 2 ∧ h.sepc / 2 * 2 < 18446744073709551616; omega⟩
  scause := hf.scause
  stval := hf.stval
  sie := msk_w _
  sip := msk_w _
  satp := hf.satp
  resv := hf.resv
theorem wrap_w (v : Int) : U64 (IntKind.u64.wrap v) := by refine ⟨?_⟩; rw [IntKind.wrap_u64]; omega
end Go.Proofs.YtidiojhefjhojaaGreat.Hart
end
