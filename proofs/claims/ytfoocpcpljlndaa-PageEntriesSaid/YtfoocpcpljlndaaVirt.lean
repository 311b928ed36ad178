/- An entry of the first stage, through the second: Translate's closure. -/
import Derived.Test.YtfoocpcpljlndaaFirst
import Derived.Test.YtfoocpcpljlndaaGuest
import Derived.Test.YtfoocpcpljlndaaMemoryB
namespace Go.Proofs.Ytfoocpcpljlndaa.Tab
open Go Go.RowKit Go.Proofs.Ytfoocpcpljlndaa.Step Go.Proofs.Ytfoocpcpljlndaa.Mem
set_option linter.unusedVariables false
set_option linter.unusedSimpArgs false
set_option maxRecDepth 100000

/-- What stands at a guest-physical address, as an entry. -/
def virtAt (base : Int) (n : Nat) (mem : Nat → Int) (root g : Int) : Int × Int :=
  if (guest base n mem root g 2).2.2 ≠ 0 then (0, (guest base n mem root g 2).2.2)
  else if hasB base n (guest base n mem root g 2).1 8 = true then (num mem ((guest base n mem root g 2).1 - base).toNat 8, 0) else (0, 3)
def vaddr (t i : Int) : Int := IntKind.u64.wrap (IntKind.u64.wrap (t * 4096) + IntKind.u64.wrap (8 * i))
def virtW (base : Int) (n : Nat) (mem : Nat → Int) (root t i : Int) : Int × Int := virtAt base n mem root (vaddr t i)
theorem vaddr_u (t i : Int) : U64 (vaddr t i) := by unfold vaddr; rw [IntKind.wrap_u64]; exact ⟨by omega, by omega⟩
theorem vaddr_in {t i : Int} (ht : 0 ≤ t ∧ t < 17592186044416) (hi : 0 ≤ i ∧ i < 512) : vaddr t i = t * 4096 + 8 * i := by
  unfold vaddr
  rw [IntWalk.u64_in (t * 4096) (by omega), IntWalk.u64_in (8 * i) (by omega)]
  exact IntWalk.u64_in _ (by omega)
theorem virtW_in {base : Int} {n : Nat} {mem : Nat → Int} {root t i : Int} (ht : 0 ≤ t ∧ t < 17592186044416) (hi : 0 ≤ i ∧ i < 512) : virtW base n mem root t i = virt base n mem root t i := by
  unfold virtW
  rw [vaddr_in ht hi]
  rfl
theorem down_congr {rd rd' : Int → Int → Int × Int} (addr : Int) (h : ∀ t l, 0 ≤ t ∧ t < 17592186044416 → rd t (ix addr l) = rd' t (ix addr l)) : ∀ (l : Nat) (t : Int), 0 ≤ t ∧ t < 17592186044416 → down rd addr l t = down rd' addr l t
  | 0, _, _ => rfl
  | l + 1, t, ht => by
    have ih := down_congr addr h l (pn (rd' t (ix addr l)).1) (pn_u _)
    simp only [down, h t l ht, ih]
theorem u0 : U64 0 := ⟨by decide, by decide⟩
theorem guest_u {base : Int} {n : Nat} {mem : Nat → Int} (hb : 0 ≤ base) (hm : ∀ i, i < n * 4096 → 0 ≤ mem i ∧ mem i < 256) {root gpa : Int} (hg : U64 gpa) (a : Int) :
    U64 (guest base n mem root gpa a).1 ∧ ((guest base n mem root gpa a).2.2 = 0 ∨ (guest base n mem root gpa a).2.2 = 2 ∨ (guest base n mem root gpa a).2.2 = 3) := by
  unfold guest
  split
  · exact ⟨hg, .inl rfl⟩
  split
  · exact ⟨u0, .inr (.inl rfl)⟩
  have HU := fun t (l : Nat) => phys_u (base := base) (n := n) (mem := mem) (t := t) (i := ix gpa l) hb hm
  cases hd : down (phys base n mem) gpa 3 root with
  | bus f t i =>
    obtain ⟨_, f3⟩ := down_bus (P := fun f => f = 3) (fun t l => (HU t l).2) 3 _ _ _ _ hd
    exact ⟨u0, .inr (.inr f3)⟩
  | page => exact ⟨u0, .inr (.inl rfl)⟩
  | leaf e l =>
    obtain ⟨_, hl, _⟩ := down_leaf (fun t l => (HU t l).1) 3 _ _ _ hd
    have h := at_u e (l := l) (by omega) gpa
    show U64 (if lets2 e a = true then (at_ e l gpa, perm e, (0 : Int)) else (0, 0, 2)).1 ∧ _
    by_cases hh : lets2 e a = true
    · show U64 (if lets2 e a = true then (at_ e l gpa, perm e, (0 : Int)) else (0, 0, 2)).1 ∧ ((if lets2 e a = true then (at_ e l gpa, perm e, (0 : Int)) else (0, 0, 2)).2.2 = 0 ∨ (if lets2 e a = true then (at_ e l gpa, perm e, (0 : Int)) else (0, 0, 2)).2.2 = 2 ∨ (if lets2 e a = true then (at_ e l gpa, perm e, (0 : Int)) else (0, 0, 2)).2.2 = 3)
      rw [if_pos hh]
      exact ⟨⟨h.1, Int.lt_trans h.2 (by decide)⟩, .inl rfl⟩
    · show U64 (if lets2 e a = true then (at_ e l gpa, perm e, (0 : Int)) else (0, 0, 2)).1 ∧ ((if lets2 e a = true then (at_ e l gpa, perm e, (0 : Int)) else (0, 0, 2)).2.2 = 0 ∨ (if lets2 e a = true then (at_ e l gpa, perm e, (0 : Int)) else (0, 0, 2)).2.2 = 2 ∨ (if lets2 e a = true then (at_ e l gpa, perm e, (0 : Int)) else (0, 0, 2)).2.2 = 3)
      rw [if_neg hh]
      exact ⟨u0, .inr (.inl rfl)⟩
theorem virtAt_u {base : Int} {n : Nat} {mem : Nat → Int} (hb : 0 ≤ base) (hm : ∀ i, i < n * 4096 → 0 ≤ mem i ∧ mem i < 256) {root g : Int} (hg : U64 g) :
    U64 (virtAt base n mem root g).1 ∧ ((virtAt base n mem root g).2 = 0 ∨ (virtAt base n mem root g).2 = 2 ∨ (virtAt base n mem root g).2 = 3) := by
  have h := guest_u hb hm (root := root) hg 2
  unfold virtAt
  split
  · exact ⟨u0, h.2⟩
  split
  · rename_i hh
    have := of_decide_eq_true hh
    exact ⟨num_u64 (s := 0) fun i h1 h2 => hm i (by omega), .inl rfl⟩
  · exact ⟨u0, .inr (.inr rfl)⟩

def placeV (p : Place) : Array Value := #[.int .u64 p.pa, .int .u64 p.gpa, .int .i64 p.fault, .bool p.walk]
theorem size_place : (Try.prog.info? 47).map (·.size) = some 4 := by kernel_rfl
theorem zero_place : (Try.prog.info? 47).bind (·.zero) = some (.agg #[.int .u64 0, .int .u64 0, .int .i64 0, .bool false]) := by kernel_rfl
/-- What the closure finds while no entry has failed. -/
structure VInv (h q1 q2 q3 : Nat) (base : Int) (n : Nat) (mem : Nat → Int) (F : Nat → Prop) (root : Int) (w : World) : Prop where
  ram : Ram w h base n mem F
  box : w.cell? ⟨q1, 0, none⟩ = some (.pointer (some ⟨h, 0, none⟩))
  env : w.cell? ⟨q2, 1, none⟩ = some (.int .u64 root)
  bad : Blk w q3 #[.int .u64 0, .int .u64 0, .int .i64 0, .bool false] 47
theorem VInv.mod {h q1 q2 q3 n : Nat} {base root : Int} {mem : Nat → Int} {F S : Nat → Prop} {w w' : World} (v : VInv h q1 q2 q3 base n mem F root w) (m : Mod S w w') (hF : ∀ k, F k → ¬ S k) (h1 : ¬ S q1) (h2 : ¬ S q2) (h3 : ¬ S q3) : VInv h q1 q2 q3 base n mem F root w' :=
  ⟨v.ram.mod m hF, (World.cell?_of_block (m.block q1 (World.block_lt_of_cell? _ _ v.box) h1)).trans v.box, (World.cell?_of_block (m.block q2 (World.block_lt_of_cell? _ _ v.env) h2)).trans v.env, v.bad.mod m h3⟩
theorem VInv.below {h q1 q2 q3 n : Nat} {base root : Int} {mem : Nat → Int} {F : Nat → Prop} {w w' : World} (v : VInv h q1 q2 q3 base n mem F root w) (b : Below w.heap.size w w') : VInv h q1 q2 q3 base n mem F root w' := v.mod (Mod.of_below b Nil) (fun _ _ h => h) (fun h => h) (fun h => h) (fun h => h)
def VBad (q3 : Nat) (base : Int) (n : Nat) (mem : Nat → Int) (root t i : Int) (w : World) : Prop := Blk w q3 (placeV ⟨0, vaddr t i, (virtW base n mem root t i).2, true⟩) 47

set_option maxHeartbeats 4000000 in
theorem reads1 {h n q1 q2 q3 : Nat} {base root : Int} {mem : Nat → Int} {F : Nat → Prop} (hr : U64 root) : Reads1 q1 q2 q3 (virtW base n mem root) (VInv h q1 q2 q3 base n mem F root) (VBad q3 base n mem root) (One q3) := by
  intro w t i v ht hi
  have V := Lib.hid v
  have c1 := v.box
  have c2 := v.env
  obtain ⟨n1, n2, b1, b2⟩ := v.ram.size
  have hgu := guest_u (root := root) b1 (fun i hi => v.ram.byte hi) (vaddr_u t i) 2
  have HG := Lib.hid (fun w (hw : VInv h q1 q2 q3 base n mem F root w) => guest_any hw.ram root (vaddr t i) 2 hr (vaddr_u t i))
  have va : IntKind.u64.wrap (IntKind.u64.wrap (t * 4096) + IntKind.u64.wrap (8 * i)) = vaddr t i := rfl
  have VW : virtW base n mem root t i = virtAt base n mem root (vaddr t i) := rfl
  unfold virtAt at VW
  have hu := Try.underlying47
  clear v ht hi hr n1 n2
  generalize guest base n mem root (vaddr t i) 2 = G at HG VW hgu
  obtain ⟨pa, pm, q⟩ := G
  simp only at VW hgu HG
  have BD : ∀ w', Blk w' q3 (placeV ⟨0, vaddr t i, (virtW base n mem root t i).2, true⟩) 47 → VBad q3 base n mem root t i w' := fun _ h => h
  have HBD := Lib.hid BD
  clear BD
  generalize vaddr t i = va0 at va HG HBD
  by_cases hq : q = 0
  · subst hq
    rw [if_neg (fun h => h rfl)] at VW
    cases hh : hasB base n pa 8 with
    | true =>
      rw [if_pos hh] at VW
      have E := Lib.hid VW
      have HR := Lib.hid (fun w (hw : VInv h q1 q2 q3 base n mem F root w) => read_z hw.ram pa 8 8 rfl hgu.1 (by decide) hh)
      clear VW hh hgu
      go_enter Try.func34, Try.ntmps34
      go_wp2_with (first
        | (go_at_call 12; refine (HG.out _ V.out).mono ?_; rintro e w2 ⟨rfl, hb⟩; have V2 := Lib.hid (V.out.below hb); have HB2 := Lib.hid hb; have c1' := (V.out.below hb).box; clear hb c1 c2)
        | (go_at_call 35; refine (HR.out _ V2.out).mono ?_; rintro e w3 ⟨rfl, hw⟩; have HB3 := Lib.hid (below_drawn hw); clear hw))
      refine bodyPost_ret (results_tmp2 rfl _ _ _) rfl ?_
      rw [E.out]
      exact ⟨rfl, (Mod.of_below HB2.out _).trans (Mod.of_below HB3.out _), fun _ => (V2.out.below HB3.out), fun h => absurd rfl h⟩
    | false =>
      rw [if_neg (by rw [hh]; decide)] at VW
      have E := Lib.hid VW
      have HR := Lib.hid (fun w (hw : VInv h q1 q2 q3 base n mem F root w) => read_no hw.ram pa 8 hgu.1 (by omega) (by rw [hh]; rfl))
      clear VW hh hgu
      go_enter Try.func34, Try.ntmps34
      go_wp2_with (first
        | (go_at_call 12; refine (HG.out _ V.out).mono ?_; rintro e w2 ⟨rfl, hb⟩; have V2 := Lib.hid (V.out.below hb); have HB2 := Lib.hid hb; have c1' := (V.out.below hb).box; clear hb c1 c2)
        | (go_at_call 35; refine (HR.out _ V2.out).mono ?_; rintro e w3 ⟨rfl, hw⟩; have HB3 := Lib.hid (below_drawn hw); have V3 := Lib.hid (V2.out.below (below_drawn hw)); clear hw)
        | ((with_reducible refine Step.gate_store (t := 47) rfl ?_); refine Step.storeAll (vs := #[.int .u64 0, .int .u64 va0, .int .i64 3, .bool true]) V3.out.bad rfl rfl rfl rfl rfl size_place rfl rfl ?_; intro w5 nb m; have N3 := Lib.hid nb; have M3 := Lib.hid m; clear nb m))
      refine bodyPost_ret (results_tmp2 rfl _ _ _) rfl ?_
      have hb := HBD.out w5
      rw [E.out] at hb ⊢
      exact ⟨rfl, ((Mod.of_below HB2.out _).trans (Mod.of_below HB3.out _)).trans M3.out, fun h => absurd (h : (3 : Int) = 0) (by decide), fun _ => hb N3.out⟩
  · rw [if_pos hq] at VW
    have E := Lib.hid VW
    have d1 : (q == 0) = false := by simpa using hq
    have d2 : (q != 0) = true := by simpa using hq
    have HQ := Lib.hid hq
    clear VW hgu hq
    go_enter Try.func34, Try.ntmps34
    go_wp2_with (first
      | (go_at_call 12; refine (HG.out _ V.out).mono ?_; rintro e w2 ⟨rfl, hb⟩; have V2 := Lib.hid (V.out.below hb); have HB2 := Lib.hid hb; clear hb c1 c2)
      | ((with_reducible refine Step.gate_store (t := 47) rfl ?_); refine Step.storeAll (vs := #[.int .u64 0, .int .u64 va0, .int .i64 q, .bool true]) V2.out.bad rfl rfl rfl rfl rfl size_place rfl rfl ?_; intro w5 nb m; have N3 := Lib.hid nb; have M3 := Lib.hid m; clear nb m))
    refine bodyPost_ret (results_tmp2 rfl _ _ _) rfl ?_
    have hb := HBD.out w5
    rw [E.out] at hb ⊢
    exact ⟨rfl, (Mod.of_below HB2.out _).trans M3.out, fun h => absurd h HQ.out, fun _ => hb N3.out⟩
end Go.Proofs.Ytfoocpcpljlndaa.Tab
