/- Both stages: page.Translate. -/
import Derived.Test.YtfoocpcpljlndaaVirt
namespace Go.Proofs.Ytfoocpcpljlndaa.Tab
open Go Go.RowKit Go.Proofs.Ytfoocpcpljlndaa.Step Go.Proofs.Ytfoocpcpljlndaa.Mem Go.Proofs.Ytfoocpcpljlndaa.Duo
set_option linter.unusedVariables false
set_option linter.unusedSimpArgs false
set_option maxRecDepth 100000

theorem pl_fn : Step.plainT Try.prog 55 = true := by kernel_rfl
def envV (satp root : Int) (user sum mxr : Bool) : Array Value := #[.int .u64 satp, .int .u64 root, .bool user, .bool sum, .bool mxr]
theorem size_env : (Try.prog.info? 25).map (·.size) = some 5 := by kernel_rfl
theorem fst_congr {rd rd' : Int → Int → Int × Int} (satp : Int) (user sum mxr : Bool) (va a : Int) (h : ∀ t l, 0 ≤ t ∧ t < 17592186044416 → rd t (ix va l) = rd' t (ix va l)) : fst rd satp user sum mxr va a = fst rd' satp user sum mxr va a := by
  unfold fst
  rw [down_congr va h 3 (satp % 17592186044416) (by omega)]
/-- Where both stages come to, by what the first one comes to. -/
def thenP (base : Int) (n : Nat) (mem : Nat → Int) (root a : Int) : Fst → Place
  | .ok g => second base n mem root g a
  | .page => ⟨0, 0, 1, false⟩
  | .bus f t i => ⟨0, t * 4096 + 8 * i, f, true⟩
theorem translate_fst (base : Int) (n : Nat) (mem : Nat → Int) (satp root : Int) (user sum mxr : Bool) (va a : Int) : translate base n mem satp root user sum mxr va a = thenP base n mem root a (fst (virt base n mem root) satp user sum mxr va a) := by
  unfold translate
  rw [first_fst]
  cases fst (virt base n mem root) satp user sum mxr va a <;> rfl
theorem down_busin {rd : Int → Int → Int × Int} {addr : Int} : ∀ (l : Nat) (t0 f t i : Int), 0 ≤ t0 ∧ t0 < 17592186044416 → down rd addr l t0 = .bus f t i → (0 ≤ t ∧ t < 17592186044416) ∧ (0 ≤ i ∧ i < 512) ∧ f = (rd t i).2 ∧ f ≠ 0 := by
  intro l
  induction l with
  | zero => intro t0 f t i _ h; simp [down] at h
  | succ l ih =>
    intro t0 f t i ht h
    simp only [down] at h
    split at h
    · rename_i h1
      cases h
      exact ⟨ht, ix_u _ _, rfl, h1⟩
    · split at h <;> try cases h
      split at h
      · exact ih _ _ _ _ (pn_u _) h
      · split at h <;> cases h
theorem fst_bus {rd : Int → Int → Int × Int} {satp va a f t i : Int} {user sum mxr : Bool} (h : fst rd satp user sum mxr va a = .bus f t i) : (0 ≤ t ∧ t < 17592186044416) ∧ (0 ≤ i ∧ i < 512) ∧ f = (rd t i).2 ∧ f ≠ 0 := by
  unfold fst at h
  split at h <;> try cases h
  split at h <;> try cases h
  split at h <;> try cases h
  generalize hd : down rd va 3 (satp % 17592186044416) = r at h
  cases r with
  | bus f' t' i' => cases h; exact down_busin 3 _ _ _ _ (by omega) hd
  | page => cases h
  | leaf e l =>
    have h2 : (if lets1 user sum mxr e a = true then Fst.ok (at_ e l va) else .page) = .bus f t i := h
    split at h2 <;> cases h2
theorem fst_ok {rd : Int → Int → Int × Int} {satp va a g : Int} {user sum mxr : Bool} (hv : U64 va) (hu : ∀ t l, U64 (rd t (ix va l)).1) (h : fst rd satp user sum mxr va a = .ok g) : U64 g := by
  unfold fst at h
  split at h
  · cases h; exact hv
  split at h <;> try cases h
  split at h <;> try cases h
  generalize hd : down rd va 3 (satp % 17592186044416) = r at h
  cases r with
  | bus f' t' i' => cases h
  | page => cases h
  | leaf e l =>
    have h2 : (if lets1 user sum mxr e a = true then Fst.ok (at_ e l va) else .page) = .ok g := h
    split at h2 <;> try cases h2
    obtain ⟨_, hl, _⟩ := down_leaf hu 3 _ _ _ hd
    have := at_u e (l := l) (by omega) va
    exact ⟨this.1, Int.lt_trans this.2 (by decide)⟩
theorem results_row1 {P : Program} {fn : Func} {p : Tmp} {ty : TypeId} (h : fn.results = #[.cell p ty]) (tmps : Array Value) (w : World) (g : Nat) (t : TypeId) (cs : Array Value) (d : TypeDesc)
    (hp : tmps.getD p undef = .pointer (some ⟨g, 0, none⟩)) (hg : Blk w g cs t) (hu : P.underlying ty = some d) (hd : (match d with | .struct _ | .array _ _ => true | _ => false) = true) (hi : (P.info? ty).map (·.size) = some cs.size) :
    (results fn tmps).run P w = .ok (.agg cs) w := results_cell_row h tmps w g t cs (0, 0) d hp hg.out hu hd hi

set_option maxHeartbeats 8000000 in
theorem translate_any {W : World} {h n : Nat} {base : Int} {mem : Nat → Int} {F : Nat → Prop} (r : Ram W h base n mem F) (satp root va a : Int) (user sum mxr : Bool) (hs : U64 satp) (hr : U64 root) (hv : U64 va) :
    Calls Try.prog 18 #[.pointer (some ⟨h, 0, none⟩), .agg (envV satp root user sum mxr), .int .u64 va, .int .i64 a] W fun e W' => e = .returned (.agg (placeV (translate base n mem satp root user sum mxr va a))) ∧ Below W.heap.size W W' := by
  obtain ⟨n1, n2, b1, b2⟩ := r.size
  have hby := fun i (hi : i < n * 4096) => r.byte hi
  have HU := Lib.hid (fun t (l : Nat) => (virtAt_u (root := root) b1 hby (vaddr_u t (ix va l))).1)
  have HF := Lib.hid (fun t (l : Nat) => (virtAt_u (root := root) b1 hby (vaddr_u t (ix va l))).2)
  have TF : translate base n mem satp root user sum mxr va a = thenP base n mem root a (fst (virtW base n mem root) satp user sum mxr va a) := by
    rw [translate_fst, fst_congr satp user sum mxr va a (fun t l ht => virtW_in ht (ix_u va l))]
  have R := Lib.hid r
  have HS := Lib.hid hs
  have HR := Lib.hid hr
  have HV := Lib.hid hv
  have hu := Try.underlying47
  have hu2 := Try.underlying25
  have hu3 := Try.underlying85
  have hu4 := Try.underlying58
  have FB := Lib.hid (fun f t i (e : fst (virtW base n mem root) satp user sum mxr va a = .bus f t i) => fst_bus e)
  have FO := Lib.hid (fun g (e : fst (virtW base n mem root) satp user sum mxr va a = .ok g) => fst_ok hv HU.out e)
  have RD := Lib.hid (fun q1 q2 q3 => reads1 (h := h) (n := n) (q1 := q1) (q2 := q2) (q3 := q3) (base := base) (mem := mem) (F := F) hr)
  unfold envV
  clear r hs hr hv hby n1 n2 b1 b2
  cases hf : fst (virtW base n mem root) satp user sum mxr va a with
  | ok ga =>
    have HGU := Lib.hid (FO.out ga hf)
    rw [hf] at TF
    have HFF := Lib.hid hf
    have TF2 : translate base n mem satp root user sum mxr va a = (if (guest base n mem root ga a).2.2 ≠ 0 then ⟨0, ga, (guest base n mem root ga a).2.2, false⟩ else ⟨(guest base n mem root ga a).1, ga, 0, false⟩) := TF
    have HGA := Lib.hid (fun w (v : Ram w h base n mem F) => guest_any v root ga a HR.out HGU.out)
    clear TF hf FB FO
    generalize guest base n mem root ga a = G at TF2 HGA
    obtain ⟨x, pm, q⟩ := G
    simp only at TF2 HGA
    by_cases hq : q = 0
    · subst hq
      rw [if_neg (fun h => h rfl)] at TF2
      have E := Lib.hid TF2
      clear TF2
      go_enter Try.func18, Try.ntmps18
      go_wp2_with (first
        | ((with_reducible refine Step.gate_box (t := 28) rfl ?_); refine Step.fresh (cs := #[.pointer (some ⟨h, 0, none⟩)]) (T := 28) rfl ?hr ?_; (case hr => first | (go_simp; done) | (go_simp; rfl)); intro q1 w1 b hg hb; have A1 := Lib.hid b; have HB1 := Lib.hid hb; have S1 := Lib.hid (show W.heap.size ≤ q1 ∧ q1 < w1.heap.size from ⟨hg, b.lt⟩); clear b hg hb)
        | ((with_reducible refine Step.gate_box (t := 25) rfl ?_); refine Step.fresh (cs := #[.int .u64 satp, .int .u64 root, .bool user, .bool sum, .bool mxr]) (T := 25) rfl ?hr ?_; (case hr => first | (go_simp; done) | (go_simp; rfl)); intro q2 w2 b hg hb; have A2 := Lib.hid b; have A12 := Lib.hid (A1.out.below hb); have HB2 := Lib.hid (HB1.out.trans (hb.mono HB1.out.size)); have S2 := Lib.hid (show w1.heap.size ≤ q2 ∧ q2 < w2.heap.size from ⟨hg, b.lt⟩); clear b hg hb)
        | ((with_reducible refine Step.gate_alloc (t := 47) rfl ?_); refine Step.freshAlloc rfl rfl (alloc_agg zero_place) ?_; (first
            | (have this := Lib.hid A8; intro q3 w4 b hg hb; have A3 := Lib.hid b; have A84 := Lib.hid (A8.out.below hb); have A14 := Lib.hid (A13.out.below hb); have A24 := Lib.hid (A23.out.below hb); have HB4 := Lib.hid (HB3.out.trans (hb.mono HB3.out.size)); have S4 := Lib.hid (show w3.heap.size ≤ q3 ∧ q3 < w4.heap.size from ⟨hg, b.lt⟩); clear b hg hb this)
            | (intro g8 w3 b hg hb; have A8 := Lib.hid b; have A13 := Lib.hid (A12.out.below hb); have A23 := Lib.hid (A2.out.below hb); have HB3 := Lib.hid (HB2.out.trans (hb.mono HB2.out.size)); have S3 := Lib.hid (show w2.heap.size ≤ g8 ∧ g8 < w3.heap.size from ⟨hg, b.lt⟩); clear b hg hb)))
        | ((with_reducible refine Step.gate_load (t := 25) rfl ?_); refine Step.loadAll A24.out rfl rfl rfl hu2 rfl size_env ?_)
        | ((with_reducible refine Step.gate_box (t := 85) rfl ?_); refine Step.fresh (cs := #[.nilFunc, .int .u64 0, .int .i64 0, .int .u64 satp, .int .u64 root, .bool user, .bool sum, .bool mxr]) (T := 85) rfl ?hr ?_; (case hr => first | (go_simp; done) | (go_simp; rfl)); intro g w5 b hg hb; have A5 := Lib.hid b; have A85 := Lib.hid (A84.out.below hb); have A15 := Lib.hid (A14.out.below hb); have A25 := Lib.hid (A24.out.below hb); have A35 := Lib.hid (A3.out.below hb); have HB5 := Lib.hid (HB4.out.trans (hb.mono HB4.out.size)); have S5 := Lib.hid (show w4.heap.size ≤ g ∧ g < w5.heap.size from ⟨hg, b.lt⟩); clear b hg hb)
        | ((with_reducible refine Step.gate_store (t := 55) rfl ?_); refine Step.store A5.out rfl rfl rfl rfl rfl pl_fn rfl rfl ?_; intro w6 nb m; have A6 := Lib.hid (show Blk w6 g (fstV q1 q2 q3 0 0 satp root user sum mxr) 85 from nb); have HS6 := Lib.hid (show W.heap.size ≤ q1 ∧ q1 < q2 ∧ q2 < g8 ∧ g8 < q3 ∧ q3 < g from by have := S1.out; have := S2.out; have := S3.out; have := S4.out; have := S5.out; omega); have A86 := Lib.hid (A85.out.one m (by have := HS6.out; omega)); have VI := Lib.hid (show VInv h q1 q2 q3 base n mem F root w6 from ⟨(R.out.below HB5.out).mod m (fun k hk e => by have := R.out.bound k hk; have := HS6.out; obtain rfl : k = g := e; omega), ((A15.out.one m (by have := HS6.out; omega)).cell 0).trans rfl, ((A25.out.one m (by have := HS6.out; omega)).cell 1).trans rfl, A35.out.one m (by have := HS6.out; omega)⟩); have HB6 := Lib.hid (below_mod HB5.out HB5.out.size m (fun k hk e => by obtain rfl : k = g := e; have := HS6.out; omega)); have KV := Lib.hid (show ∀ w w', VInv h q1 q2 q3 base n mem F root w → Mod (One g) w w' → VInv h q1 q2 q3 base n mem F root w' from fun w w' v m => v.mod m (fun k hk e => by have := R.out.bound k hk; have := HS6.out; obtain rfl : k = g := e; omega) (fun e => by obtain rfl : q1 = g := e; have := HS6.out; omega) (fun e => by obtain rfl : q2 = g := e; have := HS6.out; omega) (fun e => by obtain rfl : q3 = g := e; have := HS6.out; omega)); clear nb m A1 A12 A13 A14 A15 A2 A23 A24 A25 A3 A35 A8 A84 A85 A5 HB1 HB2 HB3 HB4 HB5 S1 S2 S3 S4 S5)
        | (go_at_call 36; refine (go1_any A6.out (RD.out q1 q2 q3) HU.out HF.out VI.out (fun e => by have := HS6.out; obtain rfl : g = q3 := e; omega) KV.out HS.out HV.out a).mono ?_; rw [HFF.out]; rintro e w7 ⟨rfl, hi, hm⟩; have A87 := Lib.hid (A86.out.mod hm (fun e => by have := HS6.out; rcases e with e | e; (obtain rfl : g8 = q3 := e; omega); omega)); have HI7 := Lib.hid hi; have HB7 := Lib.hid (below_mod HB6.out HB6.out.size hm (fun k hk e => by have := HS6.out; rcases e with e | e; (obtain rfl : k = q3 := e; omega); omega)); have k2 := hi.bad.cell 2; simp only [List.getElem?_toArray, List.getElem?_cons_zero, List.getElem?_cons_succ] at k2; have v1 := hi.box; have v2 := hi.env; clear hi hm)
        | (go_at_call 12; refine (HGA.out _ HI7.out.ram).mono ?_; rintro e w8 ⟨rfl, hb⟩; have A88 := Lib.hid (A87.out.below hb); have HB8 := Lib.hid (HB7.out.trans (hb.mono HB7.out.size)); clear hb v1 v2 k2)
        | ((with_reducible refine Step.gate_store (t := 47) rfl ?_); refine Step.storeAll (vs := #[.int .u64 x, .int .u64 ga, .int .i64 0, .bool false]) A88.out rfl rfl rfl rfl rfl size_place rfl rfl ?_; intro w9 nb m; have N9 := Lib.hid nb; have HB9 := Lib.hid (below_mod HB8.out HB8.out.size m (fun k hk e => by obtain rfl : k = g8 := e; have := HS6.out; omega)); clear nb m))
      refine bodyPost_ret (results_row1 rfl _ _ g8 _ _ _ rfl N9.out hu rfl size_place) rfl ⟨by rw [E.out]; rfl, HB9.out⟩
    · rw [if_pos hq] at TF2
      have E := Lib.hid TF2
      have dq : (q != 0) = true := by simpa using hq
      clear TF2 hq
      go_enter Try.func18, Try.ntmps18
      go_wp2_with (first
        | ((with_reducible refine Step.gate_box (t := 28) rfl ?_); refine Step.fresh (cs := #[.pointer (some ⟨h, 0, none⟩)]) (T := 28) rfl ?hr ?_; (case hr => first | (go_simp; done) | (go_simp; rfl)); intro q1 w1 b hg hb; have A1 := Lib.hid b; have HB1 := Lib.hid hb; have S1 := Lib.hid (show W.heap.size ≤ q1 ∧ q1 < w1.heap.size from ⟨hg, b.lt⟩); clear b hg hb)
        | ((with_reducible refine Step.gate_box (t := 25) rfl ?_); refine Step.fresh (cs := #[.int .u64 satp, .int .u64 root, .bool user, .bool sum, .bool mxr]) (T := 25) rfl ?hr ?_; (case hr => first | (go_simp; done) | (go_simp; rfl)); intro q2 w2 b hg hb; have A2 := Lib.hid b; have A12 := Lib.hid (A1.out.below hb); have HB2 := Lib.hid (HB1.out.trans (hb.mono HB1.out.size)); have S2 := Lib.hid (show w1.heap.size ≤ q2 ∧ q2 < w2.heap.size from ⟨hg, b.lt⟩); clear b hg hb)
        | ((with_reducible refine Step.gate_alloc (t := 47) rfl ?_); refine Step.freshAlloc rfl rfl (alloc_agg zero_place) ?_; (first
            | (have this := Lib.hid A8; intro q3 w4 b hg hb; have A3 := Lib.hid b; have A84 := Lib.hid (A8.out.below hb); have A14 := Lib.hid (A13.out.below hb); have A24 := Lib.hid (A23.out.below hb); have HB4 := Lib.hid (HB3.out.trans (hb.mono HB3.out.size)); have S4 := Lib.hid (show w3.heap.size ≤ q3 ∧ q3 < w4.heap.size from ⟨hg, b.lt⟩); clear b hg hb this)
            | (intro g8 w3 b hg hb; have A8 := Lib.hid b; have A13 := Lib.hid (A12.out.below hb); have A23 := Lib.hid (A2.out.below hb); have HB3 := Lib.hid (HB2.out.trans (hb.mono HB2.out.size)); have S3 := Lib.hid (show w2.heap.size ≤ g8 ∧ g8 < w3.heap.size from ⟨hg, b.lt⟩); clear b hg hb)))
        | ((with_reducible refine Step.gate_load (t := 25) rfl ?_); refine Step.loadAll A24.out rfl rfl rfl hu2 rfl size_env ?_)
        | ((with_reducible refine Step.gate_box (t := 85) rfl ?_); refine Step.fresh (cs := #[.nilFunc, .int .u64 0, .int .i64 0, .int .u64 satp, .int .u64 root, .bool user, .bool sum, .bool mxr]) (T := 85) rfl ?hr ?_; (case hr => first | (go_simp; done) | (go_simp; rfl)); intro g w5 b hg hb; have A5 := Lib.hid b; have A85 := Lib.hid (A84.out.below hb); have A15 := Lib.hid (A14.out.below hb); have A25 := Lib.hid (A24.out.below hb); have A35 := Lib.hid (A3.out.below hb); have HB5 := Lib.hid (HB4.out.trans (hb.mono HB4.out.size)); have S5 := Lib.hid (show w4.heap.size ≤ g ∧ g < w5.heap.size from ⟨hg, b.lt⟩); clear b hg hb)
        | ((with_reducible refine Step.gate_store (t := 55) rfl ?_); refine Step.store A5.out rfl rfl rfl rfl rfl pl_fn rfl rfl ?_; intro w6 nb m; have A6 := Lib.hid (show Blk w6 g (fstV q1 q2 q3 0 0 satp root user sum mxr) 85 from nb); have HS6 := Lib.hid (show W.heap.size ≤ q1 ∧ q1 < q2 ∧ q2 < g8 ∧ g8 < q3 ∧ q3 < g from by have := S1.out; have := S2.out; have := S3.out; have := S4.out; have := S5.out; omega); have A86 := Lib.hid (A85.out.one m (by have := HS6.out; omega)); have VI := Lib.hid (show VInv h q1 q2 q3 base n mem F root w6 from ⟨(R.out.below HB5.out).mod m (fun k hk e => by have := R.out.bound k hk; have := HS6.out; obtain rfl : k = g := e; omega), ((A15.out.one m (by have := HS6.out; omega)).cell 0).trans rfl, ((A25.out.one m (by have := HS6.out; omega)).cell 1).trans rfl, A35.out.one m (by have := HS6.out; omega)⟩); have HB6 := Lib.hid (below_mod HB5.out HB5.out.size m (fun k hk e => by obtain rfl : k = g := e; have := HS6.out; omega)); have KV := Lib.hid (show ∀ w w', VInv h q1 q2 q3 base n mem F root w → Mod (One g) w w' → VInv h q1 q2 q3 base n mem F root w' from fun w w' v m => v.mod m (fun k hk e => by have := R.out.bound k hk; have := HS6.out; obtain rfl : k = g := e; omega) (fun e => by obtain rfl : q1 = g := e; have := HS6.out; omega) (fun e => by obtain rfl : q2 = g := e; have := HS6.out; omega) (fun e => by obtain rfl : q3 = g := e; have := HS6.out; omega)); clear nb m A1 A12 A13 A14 A15 A2 A23 A24 A25 A3 A35 A8 A84 A85 A5 HB1 HB2 HB3 HB4 HB5 S1 S2 S3 S4 S5)
        | (go_at_call 36; refine (go1_any A6.out (RD.out q1 q2 q3) HU.out HF.out VI.out (fun e => by have := HS6.out; obtain rfl : g = q3 := e; omega) KV.out HS.out HV.out a).mono ?_; rw [HFF.out]; rintro e w7 ⟨rfl, hi, hm⟩; have A87 := Lib.hid (A86.out.mod hm (fun e => by have := HS6.out; rcases e with e | e; (obtain rfl : g8 = q3 := e; omega); omega)); have HI7 := Lib.hid hi; have HB7 := Lib.hid (below_mod HB6.out HB6.out.size hm (fun k hk e => by have := HS6.out; rcases e with e | e; (obtain rfl : k = q3 := e; omega); omega)); have k2 := hi.bad.cell 2; simp only [List.getElem?_toArray, List.getElem?_cons_zero, List.getElem?_cons_succ] at k2; have v1 := hi.box; have v2 := hi.env; clear hi hm)
        | (go_at_call 12; refine (HGA.out _ HI7.out.ram).mono ?_; rintro e w8 ⟨rfl, hb⟩; have A88 := Lib.hid (A87.out.below hb); have HB8 := Lib.hid (HB7.out.trans (hb.mono HB7.out.size)); clear hb v1 v2 k2)
        | ((with_reducible refine Step.gate_store (t := 47) rfl ?_); refine Step.storeAll (vs := #[.int .u64 0, .int .u64 ga, .int .i64 q, .bool false]) A88.out rfl rfl rfl rfl rfl size_place rfl rfl ?_; intro w9 nb m; have N9 := Lib.hid nb; have HB9 := Lib.hid (below_mod HB8.out HB8.out.size m (fun k hk e => by obtain rfl : k = g8 := e; have := HS6.out; omega)); clear nb m))
      refine bodyPost_ret (results_row1 rfl _ _ g8 _ _ _ rfl N9.out hu rfl size_place) rfl ⟨by rw [E.out]; rfl, HB9.out⟩
  | page =>
    rw [hf] at TF
    have E := Lib.hid TF
    have HFF := Lib.hid hf
    clear TF hf FB FO
    go_enter Try.func18, Try.ntmps18
    go_wp2_with (first
      | ((with_reducible refine Step.gate_box (t := 28) rfl ?_); refine Step.fresh (cs := #[.pointer (some ⟨h, 0, none⟩)]) (T := 28) rfl ?hr ?_; (case hr => first | (go_simp; done) | (go_simp; rfl)); intro q1 w1 b hg hb; have A1 := Lib.hid b; have HB1 := Lib.hid hb; have S1 := Lib.hid (show W.heap.size ≤ q1 ∧ q1 < w1.heap.size from ⟨hg, b.lt⟩); clear b hg hb)
      | ((with_reducible refine Step.gate_box (t := 25) rfl ?_); refine Step.fresh (cs := #[.int .u64 satp, .int .u64 root, .bool user, .bool sum, .bool mxr]) (T := 25) rfl ?hr ?_; (case hr => first | (go_simp; done) | (go_simp; rfl)); intro q2 w2 b hg hb; have A2 := Lib.hid b; have A12 := Lib.hid (A1.out.below hb); have HB2 := Lib.hid (HB1.out.trans (hb.mono HB1.out.size)); have S2 := Lib.hid (show w1.heap.size ≤ q2 ∧ q2 < w2.heap.size from ⟨hg, b.lt⟩); clear b hg hb)
      | ((with_reducible refine Step.gate_alloc (t := 47) rfl ?_); refine Step.freshAlloc rfl rfl (alloc_agg zero_place) ?_; (first
          | (have this := Lib.hid A8; intro q3 w4 b hg hb; have A3 := Lib.hid b; have A84 := Lib.hid (A8.out.below hb); have A14 := Lib.hid (A13.out.below hb); have A24 := Lib.hid (A23.out.below hb); have HB4 := Lib.hid (HB3.out.trans (hb.mono HB3.out.size)); have S4 := Lib.hid (show w3.heap.size ≤ q3 ∧ q3 < w4.heap.size from ⟨hg, b.lt⟩); clear b hg hb this)
          | (intro g8 w3 b hg hb; have A8 := Lib.hid b; have A13 := Lib.hid (A12.out.below hb); have A23 := Lib.hid (A2.out.below hb); have HB3 := Lib.hid (HB2.out.trans (hb.mono HB2.out.size)); have S3 := Lib.hid (show w2.heap.size ≤ g8 ∧ g8 < w3.heap.size from ⟨hg, b.lt⟩); clear b hg hb)))
      | ((with_reducible refine Step.gate_load (t := 25) rfl ?_); refine Step.loadAll A24.out rfl rfl rfl hu2 rfl size_env ?_)
      | ((with_reducible refine Step.gate_box (t := 85) rfl ?_); refine Step.fresh (cs := #[.nilFunc, .int .u64 0, .int .i64 0, .int .u64 satp, .int .u64 root, .bool user, .bool sum, .bool mxr]) (T := 85) rfl ?hr ?_; (case hr => first | (go_simp; done) | (go_simp; rfl)); intro g w5 b hg hb; have A5 := Lib.hid b; have A85 := Lib.hid (A84.out.below hb); have A15 := Lib.hid (A14.out.below hb); have A25 := Lib.hid (A24.out.below hb); have A35 := Lib.hid (A3.out.below hb); have HB5 := Lib.hid (HB4.out.trans (hb.mono HB4.out.size)); have S5 := Lib.hid (show w4.heap.size ≤ g ∧ g < w5.heap.size from ⟨hg, b.lt⟩); clear b hg hb)
      | ((with_reducible refine Step.gate_store (t := 55) rfl ?_); refine Step.store A5.out rfl rfl rfl rfl rfl pl_fn rfl rfl ?_; intro w6 nb m; have A6 := Lib.hid (show Blk w6 g (fstV q1 q2 q3 0 0 satp root user sum mxr) 85 from nb); have HS6 := Lib.hid (show W.heap.size ≤ q1 ∧ q1 < q2 ∧ q2 < g8 ∧ g8 < q3 ∧ q3 < g from by have := S1.out; have := S2.out; have := S3.out; have := S4.out; have := S5.out; omega); have A86 := Lib.hid (A85.out.one m (by have := HS6.out; omega)); have VI := Lib.hid (show VInv h q1 q2 q3 base n mem F root w6 from ⟨(R.out.below HB5.out).mod m (fun k hk e => by have := R.out.bound k hk; have := HS6.out; obtain rfl : k = g := e; omega), ((A15.out.one m (by have := HS6.out; omega)).cell 0).trans rfl, ((A25.out.one m (by have := HS6.out; omega)).cell 1).trans rfl, A35.out.one m (by have := HS6.out; omega)⟩); have HB6 := Lib.hid (below_mod HB5.out HB5.out.size m (fun k hk e => by obtain rfl : k = g := e; have := HS6.out; omega)); have KV := Lib.hid (show ∀ w w', VInv h q1 q2 q3 base n mem F root w → Mod (One g) w w' → VInv h q1 q2 q3 base n mem F root w' from fun w w' v m => v.mod m (fun k hk e => by have := R.out.bound k hk; have := HS6.out; obtain rfl : k = g := e; omega) (fun e => by obtain rfl : q1 = g := e; have := HS6.out; omega) (fun e => by obtain rfl : q2 = g := e; have := HS6.out; omega) (fun e => by obtain rfl : q3 = g := e; have := HS6.out; omega)); clear nb m A1 A12 A13 A14 A15 A2 A23 A24 A25 A3 A35 A8 A84 A85 A5 HB1 HB2 HB3 HB4 HB5 S1 S2 S3 S4 S5)
      | (go_at_call 36; refine (go1_any A6.out (RD.out q1 q2 q3) HU.out HF.out VI.out (fun e => by have := HS6.out; obtain rfl : g = q3 := e; omega) KV.out HS.out HV.out a).mono ?_; rw [HFF.out]; rintro e w7 ⟨rfl, hi, hm⟩; have A87 := Lib.hid (A86.out.mod hm (fun e => by have := HS6.out; rcases e with e | e; (obtain rfl : g8 = q3 := e; omega); omega)); have HI7 := Lib.hid hi; have HB7 := Lib.hid (below_mod HB6.out HB6.out.size hm (fun k hk e => by have := HS6.out; rcases e with e | e; (obtain rfl : k = q3 := e; omega); omega)); have k2 := hi.bad.cell 2; simp only [List.getElem?_toArray, List.getElem?_cons_zero, List.getElem?_cons_succ] at k2; clear hi hm)
      | ((with_reducible refine Step.gate_store (t := 47) rfl ?_); refine Step.storeAll (vs := #[.int .u64 0, .int .u64 0, .int .i64 1, .bool false]) A87.out rfl rfl rfl rfl rfl size_place rfl rfl ?_; intro w9 nb m; have N9 := Lib.hid nb; have HB9 := Lib.hid (below_mod HB7.out HB7.out.size m (fun k hk e => by obtain rfl : k = g8 := e; have := HS6.out; omega)); clear nb m))
    refine bodyPost_ret (results_row1 rfl _ _ g8 _ _ _ rfl N9.out hu rfl size_place) rfl ⟨by rw [E.out]; rfl, HB9.out⟩
  | bus f t i =>
    obtain ⟨ht, hi, hfe, hf0⟩ := FB.out f t i hf
    rw [hf] at TF
    have E := Lib.hid (show translate base n mem satp root user sum mxr va a = ⟨0, vaddr t i, (virtW base n mem root t i).2, true⟩ by rw [TF, vaddr_in ht hi, ← hfe]; rfl)
    have HFF := Lib.hid hf
    have df : ((virtW base n mem root t i).2 != 0) = true := by rw [← hfe]; simpa using hf0
    clear TF hf FB FO ht hi hfe hf0
    go_enter Try.func18, Try.ntmps18
    go_wp2_with (first
      | ((with_reducible refine Step.gate_box (t := 28) rfl ?_); refine Step.fresh (cs := #[.pointer (some ⟨h, 0, none⟩)]) (T := 28) rfl ?hr ?_; (case hr => first | (go_simp; done) | (go_simp; rfl)); intro q1 w1 b hg hb; have A1 := Lib.hid b; have HB1 := Lib.hid hb; have S1 := Lib.hid (show W.heap.size ≤ q1 ∧ q1 < w1.heap.size from ⟨hg, b.lt⟩); clear b hg hb)
      | ((with_reducible refine Step.gate_box (t := 25) rfl ?_); refine Step.fresh (cs := #[.int .u64 satp, .int .u64 root, .bool user, .bool sum, .bool mxr]) (T := 25) rfl ?hr ?_; (case hr => first | (go_simp; done) | (go_simp; rfl)); intro q2 w2 b hg hb; have A2 := Lib.hid b; have A12 := Lib.hid (A1.out.below hb); have HB2 := Lib.hid (HB1.out.trans (hb.mono HB1.out.size)); have S2 := Lib.hid (show w1.heap.size ≤ q2 ∧ q2 < w2.heap.size from ⟨hg, b.lt⟩); clear b hg hb)
      | ((with_reducible refine Step.gate_alloc (t := 47) rfl ?_); refine Step.freshAlloc rfl rfl (alloc_agg zero_place) ?_; (first
          | (have this := Lib.hid A8; intro q3 w4 b hg hb; have A3 := Lib.hid b; have A84 := Lib.hid (A8.out.below hb); have A14 := Lib.hid (A13.out.below hb); have A24 := Lib.hid (A23.out.below hb); have HB4 := Lib.hid (HB3.out.trans (hb.mono HB3.out.size)); have S4 := Lib.hid (show w3.heap.size ≤ q3 ∧ q3 < w4.heap.size from ⟨hg, b.lt⟩); clear b hg hb this)
          | (intro g8 w3 b hg hb; have A8 := Lib.hid b; have A13 := Lib.hid (A12.out.below hb); have A23 := Lib.hid (A2.out.below hb); have HB3 := Lib.hid (HB2.out.trans (hb.mono HB2.out.size)); have S3 := Lib.hid (show w2.heap.size ≤ g8 ∧ g8 < w3.heap.size from ⟨hg, b.lt⟩); clear b hg hb)))
      | ((with_reducible refine Step.gate_load (t := 25) rfl ?_); refine Step.loadAll A24.out rfl rfl rfl hu2 rfl size_env ?_)
      | ((with_reducible refine Step.gate_box (t := 85) rfl ?_); refine Step.fresh (cs := #[.nilFunc, .int .u64 0, .int .i64 0, .int .u64 satp, .int .u64 root, .bool user, .bool sum, .bool mxr]) (T := 85) rfl ?hr ?_; (case hr => first | (go_simp; done) | (go_simp; rfl)); intro g w5 b hg hb; have A5 := Lib.hid b; have A85 := Lib.hid (A84.out.below hb); have A15 := Lib.hid (A14.out.below hb); have A25 := Lib.hid (A24.out.below hb); have A35 := Lib.hid (A3.out.below hb); have HB5 := Lib.hid (HB4.out.trans (hb.mono HB4.out.size)); have S5 := Lib.hid (show w4.heap.size ≤ g ∧ g < w5.heap.size from ⟨hg, b.lt⟩); clear b hg hb)
      | ((with_reducible refine Step.gate_store (t := 55) rfl ?_); refine Step.store A5.out rfl rfl rfl rfl rfl pl_fn rfl rfl ?_; intro w6 nb m; have A6 := Lib.hid (show Blk w6 g (fstV q1 q2 q3 0 0 satp root user sum mxr) 85 from nb); have HS6 := Lib.hid (show W.heap.size ≤ q1 ∧ q1 < q2 ∧ q2 < g8 ∧ g8 < q3 ∧ q3 < g from by have := S1.out; have := S2.out; have := S3.out; have := S4.out; have := S5.out; omega); have A86 := Lib.hid (A85.out.one m (by have := HS6.out; omega)); have VI := Lib.hid (show VInv h q1 q2 q3 base n mem F root w6 from ⟨(R.out.below HB5.out).mod m (fun k hk e => by have := R.out.bound k hk; have := HS6.out; obtain rfl : k = g := e; omega), ((A15.out.one m (by have := HS6.out; omega)).cell 0).trans rfl, ((A25.out.one m (by have := HS6.out; omega)).cell 1).trans rfl, A35.out.one m (by have := HS6.out; omega)⟩); have HB6 := Lib.hid (below_mod HB5.out HB5.out.size m (fun k hk e => by obtain rfl : k = g := e; have := HS6.out; omega)); have KV := Lib.hid (show ∀ w w', VInv h q1 q2 q3 base n mem F root w → Mod (One g) w w' → VInv h q1 q2 q3 base n mem F root w' from fun w w' v m => v.mod m (fun k hk e => by have := R.out.bound k hk; have := HS6.out; obtain rfl : k = g := e; omega) (fun e => by obtain rfl : q1 = g := e; have := HS6.out; omega) (fun e => by obtain rfl : q2 = g := e; have := HS6.out; omega) (fun e => by obtain rfl : q3 = g := e; have := HS6.out; omega)); clear nb m A1 A12 A13 A14 A15 A2 A23 A24 A25 A3 A35 A8 A84 A85 A5 HB1 HB2 HB3 HB4 HB5 S1 S2 S3 S4 S5)
      | (go_at_call 36; refine (go1_any A6.out (RD.out q1 q2 q3) HU.out HF.out VI.out (fun e => by have := HS6.out; obtain rfl : g = q3 := e; omega) KV.out HS.out HV.out a).mono ?_; rw [HFF.out]; rintro e w7 ⟨rfl, hi, hm⟩; have A87 := Lib.hid (A86.out.mod hm (fun e => by have := HS6.out; rcases e with e | e; (obtain rfl : g8 = q3 := e; omega); omega)); have HI7 := Lib.hid hi; have HB7 := Lib.hid (below_mod HB6.out HB6.out.size hm (fun k hk e => by have := HS6.out; rcases e with e | e; (obtain rfl : k = q3 := e; omega); omega)); have hi2 : Blk w7 q3 #[.int .u64 0, .int .u64 (vaddr t i), .int .i64 (virtW base n mem root t i).2, .bool true] 47 := hi; have A37 := Lib.hid hi2; have k2 := hi2.cell 2; simp only [List.getElem?_toArray, List.getElem?_cons_zero, List.getElem?_cons_succ] at k2; clear hi2; clear hi hm)
      | ((with_reducible refine Step.gate_load (t := 47) rfl ?_); refine Step.loadAll A37.out rfl rfl rfl hu rfl size_place ?_)
      | ((with_reducible refine Step.gate_store (t := 47) rfl ?_); refine Step.storeAll (vs := #[.int .u64 0, .int .u64 (vaddr t i), .int .i64 (virtW base n mem root t i).2, .bool true]) A87.out rfl rfl rfl rfl rfl size_place rfl rfl ?_; intro w9 nb m; have N9 := Lib.hid nb; have HB9 := Lib.hid (below_mod HB7.out HB7.out.size m (fun k hk e => by obtain rfl : k = g8 := e; have := HS6.out; omega)); clear nb m))
    refine bodyPost_ret (results_row1 rfl _ _ g8 _ _ _ rfl N9.out hu rfl size_place) rfl ⟨by rw [E.out]; rfl, HB9.out⟩
end Go.Proofs.Ytfoocpcpljlndaa.Tab
