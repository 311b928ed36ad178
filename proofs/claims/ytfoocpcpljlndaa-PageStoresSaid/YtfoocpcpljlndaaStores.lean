/- The walk of PageStores (written by genlaws.py). -/
import Derived.Test.YtfoocpcpljlndaaAwakeB
namespace Go.Proofs.Ytfoocpcpljlndaa.Duo
open Go Go.RowKit Go.Proofs.Ytfoocpcpljlndaa.Step Go.Proofs.Ytfoocpcpljlndaa.Mem Go.Proofs.Ytfoocpcpljlndaa.Tab
set_option linter.unusedVariables false
set_option linter.unusedSimpArgs false
set_option maxRecDepth 100000

theorem lets_w (e : Int) (hw : wrongB e = false) : bt e 2 = true → bt e 1 = true := by
  intro h
  unfold wrongB at hw
  rw [h] at hw
  cases h1 : bt e 1 with
  | true => rfl
  | false => rw [h1] at hw; cases bt e 0 <;> simp at hw
/-- What the three accesses come to. -/
theorem stores_cases (mem : Nat → Int) (hm : ∀ i, i < 8 * 4096 → 0 ≤ mem i ∧ mem i < 256) (root gpa : Int) (h0 : root ≠ 0) :
    (∃ q, q ≠ 0 ∧ guest 0 8 mem root gpa 3 = (0, 0, q) ∧ guest 0 8 mem root gpa 2 = (0, 0, q) ∧ guest 0 8 mem root gpa 1 = (0, 0, q)) ∨
    ∃ A, (guest 0 8 mem root gpa 3 = (0, 0, 2) ∧ guest 0 8 mem root gpa 2 = (A, 2, 0) ∧ guest 0 8 mem root gpa 1 = (0, 0, 2)) ∨
      (guest 0 8 mem root gpa 3 = (A, 6, 0) ∧ guest 0 8 mem root gpa 2 = (A, 6, 0) ∧ guest 0 8 mem root gpa 1 = (0, 0, 2)) ∨
      (guest 0 8 mem root gpa 3 = (0, 0, 2) ∧ guest 0 8 mem root gpa 2 = (A, 10, 0) ∧ guest 0 8 mem root gpa 1 = (A, 10, 0)) ∨
      (guest 0 8 mem root gpa 3 = (A, 14, 0) ∧ guest 0 8 mem root gpa 2 = (A, 14, 0) ∧ guest 0 8 mem root gpa 1 = (A, 14, 0)) ∨
      (guest 0 8 mem root gpa 3 = (0, 0, 2) ∧ guest 0 8 mem root gpa 2 = (0, 0, 2) ∧ guest 0 8 mem root gpa 1 = (A, 8, 0)) := by
  by_cases h1 : 549755813888 ≤ gpa
  · exact .inl ⟨2, by decide, by unfold guest; rw [if_neg h0, if_pos h1], by unfold guest; rw [if_neg h0, if_pos h1], by unfold guest; rw [if_neg h0, if_pos h1]⟩
  have G : ∀ a, guest 0 8 mem root gpa a = guestOf gpa a (down (phys 0 8 mem) gpa 3 root) := fun a => by unfold guest; rw [if_neg h0, if_neg h1]
  rw [G, G, G]
  have HU := fun t (l : Nat) => (phys_u (base := 0) (n := 8) (mem := mem) (t := t) (i := ix gpa l) (by decide) hm)
  cases hd : down (phys 0 8 mem) gpa 3 root with
  | bus f t i =>
    obtain ⟨f0, _⟩ := down_bus (P := fun f => f = 3) (fun t l => (HU t l).2) 3 _ _ _ _ hd
    exact .inl ⟨f, f0, rfl, rfl, rfl⟩
  | page => exact .inl ⟨2, by decide, rfl, rfl, rfl⟩
  | leaf e l =>
    obtain ⟨eu, _, ew, ep, _⟩ := down_leaf (fun t l => (HU t l).1) 3 _ _ _ hd
    have hw := lets_w e ew
    have e3 : lets2 e 3 = (bt e 4 && bt e 6 && (bt e 2 && bt e 7)) := rfl
    have e2 : lets2 e 2 = (bt e 4 && bt e 6 && bt e 1) := rfl
    have e1 : lets2 e 1 = (bt e 4 && bt e 6 && bt e 3) := rfl
    have eP : perm e = (if bt e 1 = true then 2 else 0) + (if bt e 2 = true ∧ bt e 7 = true then 4 else 0) + (if bt e 3 = true then 8 else 0) := rfl
    have ep' : (!bt e 1 && !bt e 3) = false := ep
    show (∃ q, q ≠ 0 ∧ (if lets2 e 3 = true then (at_ e l gpa, perm e, 0) else (0, 0, 2)) = ((0 : Int), (0 : Int), q) ∧ (if lets2 e 2 = true then (at_ e l gpa, perm e, 0) else (0, 0, 2)) = ((0 : Int), (0 : Int), q) ∧ (if lets2 e 1 = true then (at_ e l gpa, perm e, 0) else (0, 0, 2)) = ((0 : Int), (0 : Int), q)) ∨ ∃ A,
      ((if lets2 e 3 = true then (at_ e l gpa, perm e, 0) else (0, 0, 2)) = ((0 : Int), (0 : Int), (2 : Int)) ∧ (if lets2 e 2 = true then (at_ e l gpa, perm e, 0) else (0, 0, 2)) = (A, (2 : Int), (0 : Int)) ∧ (if lets2 e 1 = true then (at_ e l gpa, perm e, 0) else (0, 0, 2)) = ((0 : Int), (0 : Int), (2 : Int))) ∨
      ((if lets2 e 3 = true then (at_ e l gpa, perm e, 0) else (0, 0, 2)) = (A, (6 : Int), (0 : Int)) ∧ (if lets2 e 2 = true then (at_ e l gpa, perm e, 0) else (0, 0, 2)) = (A, (6 : Int), (0 : Int)) ∧ (if lets2 e 1 = true then (at_ e l gpa, perm e, 0) else (0, 0, 2)) = ((0 : Int), (0 : Int), (2 : Int))) ∨
      ((if lets2 e 3 = true then (at_ e l gpa, perm e, 0) else (0, 0, 2)) = ((0 : Int), (0 : Int), (2 : Int)) ∧ (if lets2 e 2 = true then (at_ e l gpa, perm e, 0) else (0, 0, 2)) = (A, (10 : Int), (0 : Int)) ∧ (if lets2 e 1 = true then (at_ e l gpa, perm e, 0) else (0, 0, 2)) = (A, (10 : Int), (0 : Int))) ∨
      ((if lets2 e 3 = true then (at_ e l gpa, perm e, 0) else (0, 0, 2)) = (A, (14 : Int), (0 : Int)) ∧ (if lets2 e 2 = true then (at_ e l gpa, perm e, 0) else (0, 0, 2)) = (A, (14 : Int), (0 : Int)) ∧ (if lets2 e 1 = true then (at_ e l gpa, perm e, 0) else (0, 0, 2)) = (A, (14 : Int), (0 : Int))) ∨
      ((if lets2 e 3 = true then (at_ e l gpa, perm e, 0) else (0, 0, 2)) = ((0 : Int), (0 : Int), (2 : Int)) ∧ (if lets2 e 2 = true then (at_ e l gpa, perm e, 0) else (0, 0, 2)) = ((0 : Int), (0 : Int), (2 : Int)) ∧ (if lets2 e 1 = true then (at_ e l gpa, perm e, 0) else (0, 0, 2)) = (A, (8 : Int), (0 : Int)))
    rw [e3, e2, e1, eP]
    generalize at_ e l gpa = X
    generalize bt e 1 = b1 at *
    generalize bt e 2 = b2 at *
    generalize bt e 3 = b3 at *
    generalize bt e 4 = b4 at *
    generalize bt e 6 = b6 at *
    generalize bt e 7 = b7 at *
    clear hd eu ew ep e3 e2 e1 eP G HU hm
    cases b4 <;> cases b6 <;> (first
      | exact .inl ⟨2, by decide, rfl, rfl, rfl⟩
      | (cases b1 <;> cases b2 <;> cases b3 <;> cases b7 <;> first
          | exact absurd (hw rfl) (by decide)
          | exact absurd ep' (by decide)
          | exact .inr ⟨X, .inl ⟨rfl, rfl, rfl⟩⟩
          | exact .inr ⟨X, .inr (.inl ⟨rfl, rfl, rfl⟩)⟩
          | exact .inr ⟨X, .inr (.inr (.inl ⟨rfl, rfl, rfl⟩))⟩
          | exact .inr ⟨X, .inr (.inr (.inr (.inl ⟨rfl, rfl, rfl⟩)))⟩
          | exact .inr ⟨X, .inr (.inr (.inr (.inr ⟨rfl, rfl, rfl⟩)))⟩))

theorem guest_is {W : World} {h n : Nat} {base : Int} {mem : Nat → Int} {F : Nat → Prop} (r : Ram W h base n mem F) (root gpa a : Int) (hroot : U64 root) (hg : U64 gpa) {x p q : Int} (e : guest base n mem root gpa a = (x, p, q)) :
    Calls Try.prog 12 #[.pointer (some ⟨h, 0, none⟩), .int .u64 root, .int .u64 gpa, .int .i64 a] W fun e W' => e = .returned (.tuple #[.int .u64 x, .int .i64 p, .int .i64 q]) ∧ Below W.heap.size W W' :=
  (guest_any r root gpa a hroot hg).mono fun e' W' h => ⟨by rw [h.1, e], h.2⟩

set_option maxHeartbeats 4000000 in
theorem stores_n0 (A : Option Addr) (len cap : Nat) (f : Nat → Int × Int) (satp root : Int) (user sum mxr : Bool) (gpa : Int) (W : World) (r : RdC W A len f (· < W.heap.size)) (hl : len ≤ 9223372036854775807) (hr : U64 root) (hg : U64 gpa) (h0 : root = 0) (q : Int) (hq : q ≠ 0)
    (e3 : guest 0 8 (cm 8 f len) 1 gpa 3 = (0, 0, q)) (e2 : guest 0 8 (cm 8 f len) 1 gpa 2 = (0, 0, q)) (e1 : guest 0 8 (cm 8 f len) 1 gpa 1 = (0, 0, q)) :
    Calls Try.prog 3 #[.agg (caseV A len cap satp root user sum mxr), .int .u64 gpa] W fun e w' => e = .returned (.bool true) ∧ Below W.heap.size W w' := by
  have R := Lib.hid r
  have HL := Lib.hid hl
  have HR := Lib.hid (show U64 1 from ⟨by decide, by decide⟩)
  have HG := Lib.hid hg
  have E3 := Lib.hid e3
  have E2 := Lib.hid e2
  have E1 := Lib.hid e1
  have AW := Lib.hid awake_any
  have hu := Try.underlying31
  have hu2 := Try.underlying27
  have hu3 := Try.underlying25
  have d0 : (root == 0) = true := by simpa using h0
  have dq : (q == 0) = false := by simpa using hq
  have dq2 : (q != 0) = true := by simpa using hq
  have b0_2 : bits .and .i64 0 2 = 0 := by decide
  have b0_4 : bits .and .i64 0 4 = 0 := by decide
  have b0_8 : bits .and .i64 0 8 = 0 := by decide
  clear r hl hr hg e3 e2 e1 h0
  unfold caseV
  go_enter Try.func3, Try.ntmps3
  go_wp2_with (first
    | ((with_reducible refine Step.gate_box (t := 27) rfl ?_); refine Step.fresh (cs := #[.slice A len cap, .int .u64 satp, .int .u64 root, .bool user, .bool sum, .bool mxr]) (T := 27) rfl ?hr ?_; (case hr => first | (go_simp; done) | (go_simp; rfl)); intro g1 w1 b hg hb; have B1 := Lib.hid b; have HB1 := Lib.hid hb; clear b hg hb)
    | ((with_reducible refine Step.gate_load (t := 27) rfl ?_); refine Step.loadAll B1.out rfl rfl rfl hu2 rfl size_case ?_)
    | (go_at_call 11; refine (case_any _ A len cap f satp root user sum mxr ((R.out.mod (Mod.of_below HB1.out Nil) (fun k hk h => h) (fun k hk => hk)).wide (fun k hk => Nat.lt_of_lt_of_le hk HB1.out.size)) HL.out).mono ?_; rintro e w3 ⟨h1, h2, F1, F2, rfl, d⟩; have D := Lib.hid d; have B13 := Lib.hid (B1.out.mod d.mod (fun h => h)); clear d)
    | ((with_reducible refine Step.gate_alloc (t := 31) rfl ?_); refine Step.freshAlloc rfl rfl (alloc_agg zero_two) ?_; intro g2 w4 b hg hb; have B2 := Lib.hid b; have D2 := Lib.hid (D.out.below hb); have B14 := Lib.hid (B13.out.below hb); have HG2 := Lib.hid (show ∀ k, F1 k ∨ F2 k → k ≠ g2 from fun k h e => by subst e; have := D.out.bound k h; omega); have HN2 := Lib.hid (show w1.heap.size ≤ g2 from Nat.le_trans D.out.mod.size hg); have NE := Lib.hid (show g1 ≠ g2 from by have := B13.out.lt; omega); clear b hg hb)
    | ((with_reducible refine Step.gate_store (t := 31) rfl ?_); refine Step.storeAll (vs := #[.pointer (some ⟨h1, 0, none⟩), .pointer (some ⟨h2, 0, none⟩)]) B2.out rfl rfl rfl rfl rfl size_two rfl rfl ?_; intro w5 nb m; have N2 := Lib.hid nb; have N1 := Lib.hid (B14.out.one m NE.out); have c0 := nb.cell 0; have k1 := N1.out.cell 1; have k2 := N1.out.cell 2; have k3 := N1.out.cell 3; have k4 := N1.out.cell 4; have k5 := N1.out.cell 5; have D3 := Lib.hid (D2.out.other m (fun k h e => HG2.out k h e) (fun k e => by obtain rfl : k = g2 := e; exact HN2.out)); simp only [List.getElem?_toArray, List.getElem?_cons_zero, List.getElem?_cons_succ] at c0 k1 k2 k3 k4 k5; clear nb m)
    | (go_at_call 12; (first
        | (have G3 := Lib.hid (guest_is D3.out.one 1 gpa 3 HR.out HG.out E3.out); (with_reducible refine (G3.out).mono ?_); rintro e w6 ⟨rfl, hb⟩; have D6 := Lib.hid (D3.out.below hb); have c6 := (N2.out.below hb).cell 0; have N6 := Lib.hid (N2.out.below hb); simp only [List.getElem?_toArray, List.getElem?_cons_zero, List.getElem?_cons_succ] at c6; clear hb c0 k1 k2 k3 k4 k5 G3)
        | (have G2 := Lib.hid (guest_is D6.out.one 1 gpa 2 HR.out HG.out E2.out); (with_reducible refine (G2.out).mono ?_); rintro e w7 ⟨rfl, hb⟩; have D7 := Lib.hid (D6.out.below hb); have c7 := (N6.out.below hb).cell 0; simp only [List.getElem?_toArray, List.getElem?_cons_zero, List.getElem?_cons_succ] at c7; clear hb c6 G2)
        | (have G1 := Lib.hid (guest_is D7.out.one 1 gpa 1 HR.out HG.out E1.out); (with_reducible refine (G1.out).mono ?_); rintro e w8 ⟨rfl, hb⟩; have D8 := Lib.hid (D7.out.below hb); clear hb c7 G1)))
    | (go_at_call 13; refine (AW.out _).mono ?_; rintro e w9 ⟨rfl, hb⟩; have D9 := Lib.hid (D8.out.below hb); clear hb))
  go_ret
  exact ⟨rfl, HB1.out.trans (D9.out.out.mono HB1.out.size)⟩

set_option maxHeartbeats 4000000 in
theorem stores_a0 (A : Option Addr) (len cap : Nat) (f : Nat → Int × Int) (satp root : Int) (user sum mxr : Bool) (gpa : Int) (W : World) (r : RdC W A len f (· < W.heap.size)) (hl : len ≤ 9223372036854775807) (hr : U64 root) (hg : U64 gpa) (h0 : root = 0) (X : Int)
    (e3 : guest 0 8 (cm 8 f len) 1 gpa 3 = (0, 0, 2)) (e2 : guest 0 8 (cm 8 f len) 1 gpa 2 = (X, 2, 0)) (e1 : guest 0 8 (cm 8 f len) 1 gpa 1 = (0, 0, 2)) :
    Calls Try.prog 3 #[.agg (caseV A len cap satp root user sum mxr), .int .u64 gpa] W fun e w' => e = .returned (.bool true) ∧ Below W.heap.size W w' := by
  have R := Lib.hid r
  have HL := Lib.hid hl
  have HR := Lib.hid (show U64 1 from ⟨by decide, by decide⟩)
  have HG := Lib.hid hg
  have E3 := Lib.hid e3
  have E2 := Lib.hid e2
  have E1 := Lib.hid e1
  have AW := Lib.hid awake_any
  have hu := Try.underlying31
  have hu2 := Try.underlying27
  have hu3 := Try.underlying25
  have d0 : (root == 0) = true := by simpa using h0
  have b0_2 : bits .and .i64 0 2 = 0 := by decide
  have b0_4 : bits .and .i64 0 4 = 0 := by decide
  have b0_8 : bits .and .i64 0 8 = 0 := by decide
  have b2_2 : bits .and .i64 2 2 = 2 := by decide
  have b2_4 : bits .and .i64 2 4 = 0 := by decide
  have b2_8 : bits .and .i64 2 8 = 0 := by decide
  clear r hl hr hg e3 e2 e1 h0
  unfold caseV
  go_enter Try.func3, Try.ntmps3
  go_wp2_with (first
    | ((with_reducible refine Step.gate_box (t := 27) rfl ?_); refine Step.fresh (cs := #[.slice A len cap, .int .u64 satp, .int .u64 root, .bool user, .bool sum, .bool mxr]) (T := 27) rfl ?hr ?_; (case hr => first | (go_simp; done) | (go_simp; rfl)); intro g1 w1 b hg hb; have B1 := Lib.hid b; have HB1 := Lib.hid hb; clear b hg hb)
    | ((with_reducible refine Step.gate_load (t := 27) rfl ?_); refine Step.loadAll B1.out rfl rfl rfl hu2 rfl size_case ?_)
    | (go_at_call 11; refine (case_any _ A len cap f satp root user sum mxr ((R.out.mod (Mod.of_below HB1.out Nil) (fun k hk h => h) (fun k hk => hk)).wide (fun k hk => Nat.lt_of_lt_of_le hk HB1.out.size)) HL.out).mono ?_; rintro e w3 ⟨h1, h2, F1, F2, rfl, d⟩; have D := Lib.hid d; have B13 := Lib.hid (B1.out.mod d.mod (fun h => h)); clear d)
    | ((with_reducible refine Step.gate_alloc (t := 31) rfl ?_); refine Step.freshAlloc rfl rfl (alloc_agg zero_two) ?_; intro g2 w4 b hg hb; have B2 := Lib.hid b; have D2 := Lib.hid (D.out.below hb); have B14 := Lib.hid (B13.out.below hb); have HG2 := Lib.hid (show ∀ k, F1 k ∨ F2 k → k ≠ g2 from fun k h e => by subst e; have := D.out.bound k h; omega); have HN2 := Lib.hid (show w1.heap.size ≤ g2 from Nat.le_trans D.out.mod.size hg); have NE := Lib.hid (show g1 ≠ g2 from by have := B13.out.lt; omega); clear b hg hb)
    | ((with_reducible refine Step.gate_store (t := 31) rfl ?_); refine Step.storeAll (vs := #[.pointer (some ⟨h1, 0, none⟩), .pointer (some ⟨h2, 0, none⟩)]) B2.out rfl rfl rfl rfl rfl size_two rfl rfl ?_; intro w5 nb m; have N2 := Lib.hid nb; have N1 := Lib.hid (B14.out.one m NE.out); have c0 := nb.cell 0; have k1 := N1.out.cell 1; have k2 := N1.out.cell 2; have k3 := N1.out.cell 3; have k4 := N1.out.cell 4; have k5 := N1.out.cell 5; have D3 := Lib.hid (D2.out.other m (fun k h e => HG2.out k h e) (fun k e => by obtain rfl : k = g2 := e; exact HN2.out)); simp only [List.getElem?_toArray, List.getElem?_cons_zero, List.getElem?_cons_succ] at c0 k1 k2 k3 k4 k5; clear nb m)
    | (go_at_call 12; (first
        | (have G3 := Lib.hid (guest_is D3.out.one 1 gpa 3 HR.out HG.out E3.out); (with_reducible refine (G3.out).mono ?_); rintro e w6 ⟨rfl, hb⟩; have D6 := Lib.hid (D3.out.below hb); have c6 := (N2.out.below hb).cell 0; have N6 := Lib.hid (N2.out.below hb); simp only [List.getElem?_toArray, List.getElem?_cons_zero, List.getElem?_cons_succ] at c6; clear hb c0 k1 k2 k3 k4 k5 G3)
        | (have G2 := Lib.hid (guest_is D6.out.one 1 gpa 2 HR.out HG.out E2.out); (with_reducible refine (G2.out).mono ?_); rintro e w7 ⟨rfl, hb⟩; have D7 := Lib.hid (D6.out.below hb); have c7 := (N6.out.below hb).cell 0; simp only [List.getElem?_toArray, List.getElem?_cons_zero, List.getElem?_cons_succ] at c7; clear hb c6 G2)
        | (have G1 := Lib.hid (guest_is D7.out.one 1 gpa 1 HR.out HG.out E1.out); (with_reducible refine (G1.out).mono ?_); rintro e w8 ⟨rfl, hb⟩; have D8 := Lib.hid (D7.out.below hb); clear hb c7 G1)))
    | (go_at_call 13; refine (AW.out _).mono ?_; rintro e w9 ⟨rfl, hb⟩; have D9 := Lib.hid (D8.out.below hb); clear hb))
  go_ret
  exact ⟨rfl, HB1.out.trans (D9.out.out.mono HB1.out.size)⟩

set_option maxHeartbeats 4000000 in
theorem stores_b0 (A : Option Addr) (len cap : Nat) (f : Nat → Int × Int) (satp root : Int) (user sum mxr : Bool) (gpa : Int) (W : World) (r : RdC W A len f (· < W.heap.size)) (hl : len ≤ 9223372036854775807) (hr : U64 root) (hg : U64 gpa) (h0 : root = 0) (X : Int)
    (e3 : guest 0 8 (cm 8 f len) 1 gpa 3 = (X, 6, 0)) (e2 : guest 0 8 (cm 8 f len) 1 gpa 2 = (X, 6, 0)) (e1 : guest 0 8 (cm 8 f len) 1 gpa 1 = (0, 0, 2)) :
    Calls Try.prog 3 #[.agg (caseV A len cap satp root user sum mxr), .int .u64 gpa] W fun e w' => e = .returned (.bool true) ∧ Below W.heap.size W w' := by
  have R := Lib.hid r
  have HL := Lib.hid hl
  have HR := Lib.hid (show U64 1 from ⟨by decide, by decide⟩)
  have HG := Lib.hid hg
  have E3 := Lib.hid e3
  have E2 := Lib.hid e2
  have E1 := Lib.hid e1
  have AW := Lib.hid awake_any
  have hu := Try.underlying31
  have hu2 := Try.underlying27
  have hu3 := Try.underlying25
  have d0 : (root == 0) = true := by simpa using h0
  have b0_2 : bits .and .i64 0 2 = 0 := by decide
  have b0_4 : bits .and .i64 0 4 = 0 := by decide
  have b0_8 : bits .and .i64 0 8 = 0 := by decide
  have b6_2 : bits .and .i64 6 2 = 2 := by decide
  have b6_4 : bits .and .i64 6 4 = 4 := by decide
  have b6_8 : bits .and .i64 6 8 = 0 := by decide
  clear r hl hr hg e3 e2 e1 h0
  unfold caseV
  go_enter Try.func3, Try.ntmps3
  go_wp2_with (first
    | ((with_reducible refine Step.gate_box (t := 27) rfl ?_); refine Step.fresh (cs := #[.slice A len cap, .int .u64 satp, .int .u64 root, .bool user, .bool sum, .bool mxr]) (T := 27) rfl ?hr ?_; (case hr => first | (go_simp; done) | (go_simp; rfl)); intro g1 w1 b hg hb; have B1 := Lib.hid b; have HB1 := Lib.hid hb; clear b hg hb)
    | ((with_reducible refine Step.gate_load (t := 27) rfl ?_); refine Step.loadAll B1.out rfl rfl rfl hu2 rfl size_case ?_)
    | (go_at_call 11; refine (case_any _ A len cap f satp root user sum mxr ((R.out.mod (Mod.of_below HB1.out Nil) (fun k hk h => h) (fun k hk => hk)).wide (fun k hk => Nat.lt_of_lt_of_le hk HB1.out.size)) HL.out).mono ?_; rintro e w3 ⟨h1, h2, F1, F2, rfl, d⟩; have D := Lib.hid d; have B13 := Lib.hid (B1.out.mod d.mod (fun h => h)); clear d)
    | ((with_reducible refine Step.gate_alloc (t := 31) rfl ?_); refine Step.freshAlloc rfl rfl (alloc_agg zero_two) ?_; intro g2 w4 b hg hb; have B2 := Lib.hid b; have D2 := Lib.hid (D.out.below hb); have B14 := Lib.hid (B13.out.below hb); have HG2 := Lib.hid (show ∀ k, F1 k ∨ F2 k → k ≠ g2 from fun k h e => by subst e; have := D.out.bound k h; omega); have HN2 := Lib.hid (show w1.heap.size ≤ g2 from Nat.le_trans D.out.mod.size hg); have NE := Lib.hid (show g1 ≠ g2 from by have := B13.out.lt; omega); clear b hg hb)
    | ((with_reducible refine Step.gate_store (t := 31) rfl ?_); refine Step.storeAll (vs := #[.pointer (some ⟨h1, 0, none⟩), .pointer (some ⟨h2, 0, none⟩)]) B2.out rfl rfl rfl rfl rfl size_two rfl rfl ?_; intro w5 nb m; have N2 := Lib.hid nb; have N1 := Lib.hid (B14.out.one m NE.out); have c0 := nb.cell 0; have k1 := N1.out.cell 1; have k2 := N1.out.cell 2; have k3 := N1.out.cell 3; have k4 := N1.out.cell 4; have k5 := N1.out.cell 5; have D3 := Lib.hid (D2.out.other m (fun k h e => HG2.out k h e) (fun k e => by obtain rfl : k = g2 := e; exact HN2.out)); simp only [List.getElem?_toArray, List.getElem?_cons_zero, List.getElem?_cons_succ] at c0 k1 k2 k3 k4 k5; clear nb m)
    | (go_at_call 12; (first
        | (have G3 := Lib.hid (guest_is D3.out.one 1 gpa 3 HR.out HG.out E3.out); (with_reducible refine (G3.out).mono ?_); rintro e w6 ⟨rfl, hb⟩; have D6 := Lib.hid (D3.out.below hb); have c6 := (N2.out.below hb).cell 0; have N6 := Lib.hid (N2.out.below hb); simp only [List.getElem?_toArray, List.getElem?_cons_zero, List.getElem?_cons_succ] at c6; clear hb c0 k1 k2 k3 k4 k5 G3)
        | (have G2 := Lib.hid (guest_is D6.out.one 1 gpa 2 HR.out HG.out E2.out); (with_reducible refine (G2.out).mono ?_); rintro e w7 ⟨rfl, hb⟩; have D7 := Lib.hid (D6.out.below hb); have c7 := (N6.out.below hb).cell 0; simp only [List.getElem?_toArray, List.getElem?_cons_zero, List.getElem?_cons_succ] at c7; clear hb c6 G2)
        | (have G1 := Lib.hid (guest_is D7.out.one 1 gpa 1 HR.out HG.out E1.out); (with_reducible refine (G1.out).mono ?_); rintro e w8 ⟨rfl, hb⟩; have D8 := Lib.hid (D7.out.below hb); clear hb c7 G1)))
    | (go_at_call 13; refine (AW.out _).mono ?_; rintro e w9 ⟨rfl, hb⟩; have D9 := Lib.hid (D8.out.below hb); clear hb))
  go_ret
  exact ⟨rfl, HB1.out.trans (D9.out.out.mono HB1.out.size)⟩

set_option maxHeartbeats 4000000 in
theorem stores_c0 (A : Option Addr) (len cap : Nat) (f : Nat → Int × Int) (satp root : Int) (user sum mxr : Bool) (gpa : Int) (W : World) (r : RdC W A len f (· < W.heap.size)) (hl : len ≤ 9223372036854775807) (hr : U64 root) (hg : U64 gpa) (h0 : root = 0) (X : Int)
    (e3 : guest 0 8 (cm 8 f len) 1 gpa 3 = (0, 0, 2)) (e2 : guest 0 8 (cm 8 f len) 1 gpa 2 = (X, 10, 0)) (e1 : guest 0 8 (cm 8 f len) 1 gpa 1 = (X, 10, 0)) :
    Calls Try.prog 3 #[.agg (caseV A len cap satp root user sum mxr), .int .u64 gpa] W fun e w' => e = .returned (.bool true) ∧ Below W.heap.size W w' := by
  have R := Lib.hid r
  have HL := Lib.hid hl
  have HR := Lib.hid (show U64 1 from ⟨by decide, by decide⟩)
  have HG := Lib.hid hg
  have E3 := Lib.hid e3
  have E2 := Lib.hid e2
  have E1 := Lib.hid e1
  have AW := Lib.hid awake_any
  have hu := Try.underlying31
  have hu2 := Try.underlying27
  have hu3 := Try.underlying25
  have d0 : (root == 0) = true := by simpa using h0
  have b0_2 : bits .and .i64 0 2 = 0 := by decide
  have b0_4 : bits .and .i64 0 4 = 0 := by decide
  have b0_8 : bits .and .i64 0 8 = 0 := by decide
  have b10_2 : bits .and .i64 10 2 = 2 := by decide
  have b10_4 : bits .and .i64 10 4 = 0 := by decide
  have b10_8 : bits .and .i64 10 8 = 8 := by decide
  clear r hl hr hg e3 e2 e1 h0
  unfold caseV
  go_enter Try.func3, Try.ntmps3
  go_wp2_with (first
    | ((with_reducible refine Step.gate_box (t := 27) rfl ?_); refine Step.fresh (cs := #[.slice A len cap, .int .u64 satp, .int .u64 root, .bool user, .bool sum, .bool mxr]) (T := 27) rfl ?hr ?_; (case hr => first | (go_simp; done) | (go_simp; rfl)); intro g1 w1 b hg hb; have B1 := Lib.hid b; have HB1 := Lib.hid hb; clear b hg hb)
    | ((with_reducible refine Step.gate_load (t := 27) rfl ?_); refine Step.loadAll B1.out rfl rfl rfl hu2 rfl size_case ?_)
    | (go_at_call 11; refine (case_any _ A len cap f satp root user sum mxr ((R.out.mod (Mod.of_below HB1.out Nil) (fun k hk h => h) (fun k hk => hk)).wide (fun k hk => Nat.lt_of_lt_of_le hk HB1.out.size)) HL.out).mono ?_; rintro e w3 ⟨h1, h2, F1, F2, rfl, d⟩; have D := Lib.hid d; have B13 := Lib.hid (B1.out.mod d.mod (fun h => h)); clear d)
    | ((with_reducible refine Step.gate_alloc (t := 31) rfl ?_); refine Step.freshAlloc rfl rfl (alloc_agg zero_two) ?_; intro g2 w4 b hg hb; have B2 := Lib.hid b; have D2 := Lib.hid (D.out.below hb); have B14 := Lib.hid (B13.out.below hb); have HG2 := Lib.hid (show ∀ k, F1 k ∨ F2 k → k ≠ g2 from fun k h e => by subst e; have := D.out.bound k h; omega); have HN2 := Lib.hid (show w1.heap.size ≤ g2 from Nat.le_trans D.out.mod.size hg); have NE := Lib.hid (show g1 ≠ g2 from by have := B13.out.lt; omega); clear b hg hb)
    | ((with_reducible refine Step.gate_store (t := 31) rfl ?_); refine Step.storeAll (vs := #[.pointer (some ⟨h1, 0, none⟩), .pointer (some ⟨h2, 0, none⟩)]) B2.out rfl rfl rfl rfl rfl size_two rfl rfl ?_; intro w5 nb m; have N2 := Lib.hid nb; have N1 := Lib.hid (B14.out.one m NE.out); have c0 := nb.cell 0; have k1 := N1.out.cell 1; have k2 := N1.out.cell 2; have k3 := N1.out.cell 3; have k4 := N1.out.cell 4; have k5 := N1.out.cell 5; have D3 := Lib.hid (D2.out.other m (fun k h e => HG2.out k h e) (fun k e => by obtain rfl : k = g2 := e; exact HN2.out)); simp only [List.getElem?_toArray, List.getElem?_cons_zero, List.getElem?_cons_succ] at c0 k1 k2 k3 k4 k5; clear nb m)
    | (go_at_call 12; (first
        | (have G3 := Lib.hid (guest_is D3.out.one 1 gpa 3 HR.out HG.out E3.out); (with_reducible refine (G3.out).mono ?_); rintro e w6 ⟨rfl, hb⟩; have D6 := Lib.hid (D3.out.below hb); have c6 := (N2.out.below hb).cell 0; have N6 := Lib.hid (N2.out.below hb); simp only [List.getElem?_toArray, List.getElem?_cons_zero, List.getElem?_cons_succ] at c6; clear hb c0 k1 k2 k3 k4 k5 G3)
        | (have G2 := Lib.hid (guest_is D6.out.one 1 gpa 2 HR.out HG.out E2.out); (with_reducible refine (G2.out).mono ?_); rintro e w7 ⟨rfl, hb⟩; have D7 := Lib.hid (D6.out.below hb); have c7 := (N6.out.below hb).cell 0; simp only [List.getElem?_toArray, List.getElem?_cons_zero, List.getElem?_cons_succ] at c7; clear hb c6 G2)
        | (have G1 := Lib.hid (guest_is D7.out.one 1 gpa 1 HR.out HG.out E1.out); (with_reducible refine (G1.out).mono ?_); rintro e w8 ⟨rfl, hb⟩; have D8 := Lib.hid (D7.out.below hb); clear hb c7 G1)))
    | (go_at_call 13; refine (AW.out _).mono ?_; rintro e w9 ⟨rfl, hb⟩; have D9 := Lib.hid (D8.out.below hb); clear hb))
  go_ret
  exact ⟨rfl, HB1.out.trans (D9.out.out.mono HB1.out.size)⟩

set_option maxHeartbeats 4000000 in
theorem stores_d0 (A : Option Addr) (len cap : Nat) (f : Nat → Int × Int) (satp root : Int) (user sum mxr : Bool) (gpa : Int) (W : World) (r : RdC W A len f (· < W.heap.size)) (hl : len ≤ 9223372036854775807) (hr : U64 root) (hg : U64 gpa) (h0 : root = 0) (X : Int)
    (e3 : guest 0 8 (cm 8 f len) 1 gpa 3 = (X, 14, 0)) (e2 : guest 0 8 (cm 8 f len) 1 gpa 2 = (X, 14, 0)) (e1 : guest 0 8 (cm 8 f len) 1 gpa 1 = (X, 14, 0)) :
    Calls Try.prog 3 #[.agg (caseV A len cap satp root user sum mxr), .int .u64 gpa] W fun e w' => e = .returned (.bool true) ∧ Below W.heap.size W w' := by
  have R := Lib.hid r
  have HL := Lib.hid hl
  have HR := Lib.hid (show U64 1 from ⟨by decide, by decide⟩)
  have HG := Lib.hid hg
  have E3 := Lib.hid e3
  have E2 := Lib.hid e2
  have E1 := Lib.hid e1
  have AW := Lib.hid awake_any
  have hu := Try.underlying31
  have hu2 := Try.underlying27
  have hu3 := Try.underlying25
  have d0 : (root == 0) = true := by simpa using h0
  have b14_2 : bits .and .i64 14 2 = 2 := by decide
  have b14_4 : bits .and .i64 14 4 = 4 := by decide
  have b14_8 : bits .and .i64 14 8 = 8 := by decide
  clear r hl hr hg e3 e2 e1 h0
  unfold caseV
  go_enter Try.func3, Try.ntmps3
  go_wp2_with (first
    | ((with_reducible refine Step.gate_box (t := 27) rfl ?_); refine Step.fresh (cs := #[.slice A len cap, .int .u64 satp, .int .u64 root, .bool user, .bool sum, .bool mxr]) (T := 27) rfl ?hr ?_; (case hr => first | (go_simp; done) | (go_simp; rfl)); intro g1 w1 b hg hb; have B1 := Lib.hid b; have HB1 := Lib.hid hb; clear b hg hb)
    | ((with_reducible refine Step.gate_load (t := 27) rfl ?_); refine Step.loadAll B1.out rfl rfl rfl hu2 rfl size_case ?_)
    | (go_at_call 11; refine (case_any _ A len cap f satp root user sum mxr ((R.out.mod (Mod.of_below HB1.out Nil) (fun k hk h => h) (fun k hk => hk)).wide (fun k hk => Nat.lt_of_lt_of_le hk HB1.out.size)) HL.out).mono ?_; rintro e w3 ⟨h1, h2, F1, F2, rfl, d⟩; have D := Lib.hid d; have B13 := Lib.hid (B1.out.mod d.mod (fun h => h)); clear d)
    | ((with_reducible refine Step.gate_alloc (t := 31) rfl ?_); refine Step.freshAlloc rfl rfl (alloc_agg zero_two) ?_; intro g2 w4 b hg hb; have B2 := Lib.hid b; have D2 := Lib.hid (D.out.below hb); have B14 := Lib.hid (B13.out.below hb); have HG2 := Lib.hid (show ∀ k, F1 k ∨ F2 k → k ≠ g2 from fun k h e => by subst e; have := D.out.bound k h; omega); have HN2 := Lib.hid (show w1.heap.size ≤ g2 from Nat.le_trans D.out.mod.size hg); have NE := Lib.hid (show g1 ≠ g2 from by have := B13.out.lt; omega); clear b hg hb)
    | ((with_reducible refine Step.gate_store (t := 31) rfl ?_); refine Step.storeAll (vs := #[.pointer (some ⟨h1, 0, none⟩), .pointer (some ⟨h2, 0, none⟩)]) B2.out rfl rfl rfl rfl rfl size_two rfl rfl ?_; intro w5 nb m; have N2 := Lib.hid nb; have N1 := Lib.hid (B14.out.one m NE.out); have c0 := nb.cell 0; have k1 := N1.out.cell 1; have k2 := N1.out.cell 2; have k3 := N1.out.cell 3; have k4 := N1.out.cell 4; have k5 := N1.out.cell 5; have D3 := Lib.hid (D2.out.other m (fun k h e => HG2.out k h e) (fun k e => by obtain rfl : k = g2 := e; exact HN2.out)); simp only [List.getElem?_toArray, List.getElem?_cons_zero, List.getElem?_cons_succ] at c0 k1 k2 k3 k4 k5; clear nb m)
    | (go_at_call 12; (first
        | (have G3 := Lib.hid (guest_is D3.out.one 1 gpa 3 HR.out HG.out E3.out); (with_reducible refine (G3.out).mono ?_); rintro e w6 ⟨rfl, hb⟩; have D6 := Lib.hid (D3.out.below hb); have c6 := (N2.out.below hb).cell 0; have N6 := Lib.hid (N2.out.below hb); simp only [List.getElem?_toArray, List.getElem?_cons_zero, List.getElem?_cons_succ] at c6; clear hb c0 k1 k2 k3 k4 k5 G3)
        | (have G2 := Lib.hid (guest_is D6.out.one 1 gpa 2 HR.out HG.out E2.out); (with_reducible refine (G2.out).mono ?_); rintro e w7 ⟨rfl, hb⟩; have D7 := Lib.hid (D6.out.below hb); have c7 := (N6.out.below hb).cell 0; simp only [List.getElem?_toArray, List.getElem?_cons_zero, List.getElem?_cons_succ] at c7; clear hb c6 G2)
        | (have G1 := Lib.hid (guest_is D7.out.one 1 gpa 1 HR.out HG.out E1.out); (with_reducible refine (G1.out).mono ?_); rintro e w8 ⟨rfl, hb⟩; have D8 := Lib.hid (D7.out.below hb); clear hb c7 G1)))
    | (go_at_call 13; refine (AW.out _).mono ?_; rintro e w9 ⟨rfl, hb⟩; have D9 := Lib.hid (D8.out.below hb); clear hb))
  go_ret
  exact ⟨rfl, HB1.out.trans (D9.out.out.mono HB1.out.size)⟩

set_option maxHeartbeats 4000000 in
theorem stores_e0 (A : Option Addr) (len cap : Nat) (f : Nat → Int × Int) (satp root : Int) (user sum mxr : Bool) (gpa : Int) (W : World) (r : RdC W A len f (· < W.heap.size)) (hl : len ≤ 9223372036854775807) (hr : U64 root) (hg : U64 gpa) (h0 : root = 0) (X : Int)
    (e3 : guest 0 8 (cm 8 f len) 1 gpa 3 = (0, 0, 2)) (e2 : guest 0 8 (cm 8 f len) 1 gpa 2 = (0, 0, 2)) (e1 : guest 0 8 (cm 8 f len) 1 gpa 1 = (X, 8, 0)) :
    Calls Try.prog 3 #[.agg (caseV A len cap satp root user sum mxr), .int .u64 gpa] W fun e w' => e = .returned (.bool true) ∧ Below W.heap.size W w' := by
  have R := Lib.hid r
  have HL := Lib.hid hl
  have HR := Lib.hid (show U64 1 from ⟨by decide, by decide⟩)
  have HG := Lib.hid hg
  have E3 := Lib.hid e3
  have E2 := Lib.hid e2
  have E1 := Lib.hid e1
  have AW := Lib.hid awake_any
  have hu := Try.underlying31
  have hu2 := Try.underlying27
  have hu3 := Try.underlying25
  have d0 : (root == 0) = true := by simpa using h0
  have b0_2 : bits .and .i64 0 2 = 0 := by decide
  have b0_4 : bits .and .i64 0 4 = 0 := by decide
  have b0_8 : bits .and .i64 0 8 = 0 := by decide
  have b8_2 : bits .and .i64 8 2 = 0 := by decide
  have b8_4 : bits .and .i64 8 4 = 0 := by decide
  have b8_8 : bits .and .i64 8 8 = 8 := by decide
  clear r hl hr hg e3 e2 e1 h0
  unfold caseV
  go_enter Try.func3, Try.ntmps3
  go_wp2_with (first
    | ((with_reducible refine Step.gate_box (t := 27) rfl ?_); refine Step.fresh (cs := #[.slice A len cap, .int .u64 satp, .int .u64 root, .bool user, .bool sum, .bool mxr]) (T := 27) rfl ?hr ?_; (case hr => first | (go_simp; done) | (go_simp; rfl)); intro g1 w1 b hg hb; have B1 := Lib.hid b; have HB1 := Lib.hid hb; clear b hg hb)
    | ((with_reducible refine Step.gate_load (t := 27) rfl ?_); refine Step.loadAll B1.out rfl rfl rfl hu2 rfl size_case ?_)
    | (go_at_call 11; refine (case_any _ A len cap f satp root user sum mxr ((R.out.mod (Mod.of_below HB1.out Nil) (fun k hk h => h) (fun k hk => hk)).wide (fun k hk => Nat.lt_of_lt_of_le hk HB1.out.size)) HL.out).mono ?_; rintro e w3 ⟨h1, h2, F1, F2, rfl, d⟩; have D := Lib.hid d; have B13 := Lib.hid (B1.out.mod d.mod (fun h => h)); clear d)
    | ((with_reducible refine Step.gate_alloc (t := 31) rfl ?_); refine Step.freshAlloc rfl rfl (alloc_agg zero_two) ?_; intro g2 w4 b hg hb; have B2 := Lib.hid b; have D2 := Lib.hid (D.out.below hb); have B14 := Lib.hid (B13.out.below hb); have HG2 := Lib.hid (show ∀ k, F1 k ∨ F2 k → k ≠ g2 from fun k h e => by subst e; have := D.out.bound k h; omega); have HN2 := Lib.hid (show w1.heap.size ≤ g2 from Nat.le_trans D.out.mod.size hg); have NE := Lib.hid (show g1 ≠ g2 from by have := B13.out.lt; omega); clear b hg hb)
    | ((with_reducible refine Step.gate_store (t := 31) rfl ?_); refine Step.storeAll (vs := #[.pointer (some ⟨h1, 0, none⟩), .pointer (some ⟨h2, 0, none⟩)]) B2.out rfl rfl rfl rfl rfl size_two rfl rfl ?_; intro w5 nb m; have N2 := Lib.hid nb; have N1 := Lib.hid (B14.out.one m NE.out); have c0 := nb.cell 0; have k1 := N1.out.cell 1; have k2 := N1.out.cell 2; have k3 := N1.out.cell 3; have k4 := N1.out.cell 4; have k5 := N1.out.cell 5; have D3 := Lib.hid (D2.out.other m (fun k h e => HG2.out k h e) (fun k e => by obtain rfl : k = g2 := e; exact HN2.out)); simp only [List.getElem?_toArray, List.getElem?_cons_zero, List.getElem?_cons_succ] at c0 k1 k2 k3 k4 k5; clear nb m)
    | (go_at_call 12; (first
        | (have G3 := Lib.hid (guest_is D3.out.one 1 gpa 3 HR.out HG.out E3.out); (with_reducible refine (G3.out).mono ?_); rintro e w6 ⟨rfl, hb⟩; have D6 := Lib.hid (D3.out.below hb); have c6 := (N2.out.below hb).cell 0; have N6 := Lib.hid (N2.out.below hb); simp only [List.getElem?_toArray, List.getElem?_cons_zero, List.getElem?_cons_succ] at c6; clear hb c0 k1 k2 k3 k4 k5 G3)
        | (have G2 := Lib.hid (guest_is D6.out.one 1 gpa 2 HR.out HG.out E2.out); (with_reducible refine (G2.out).mono ?_); rintro e w7 ⟨rfl, hb⟩; have D7 := Lib.hid (D6.out.below hb); have c7 := (N6.out.below hb).cell 0; simp only [List.getElem?_toArray, List.getElem?_cons_zero, List.getElem?_cons_succ] at c7; clear hb c6 G2)
        | (have G1 := Lib.hid (guest_is D7.out.one 1 gpa 1 HR.out HG.out E1.out); (with_reducible refine (G1.out).mono ?_); rintro e w8 ⟨rfl, hb⟩; have D8 := Lib.hid (D7.out.below hb); clear hb c7 G1)))
    | (go_at_call 13; refine (AW.out _).mono ?_; rintro e w9 ⟨rfl, hb⟩; have D9 := Lib.hid (D8.out.below hb); clear hb))
  go_ret
  exact ⟨rfl, HB1.out.trans (D9.out.out.mono HB1.out.size)⟩

set_option maxHeartbeats 4000000 in
theorem stores_n1 (A : Option Addr) (len cap : Nat) (f : Nat → Int × Int) (satp root : Int) (user sum mxr : Bool) (gpa : Int) (W : World) (r : RdC W A len f (· < W.heap.size)) (hl : len ≤ 9223372036854775807) (hr : U64 root) (hg : U64 gpa) (h0 : root ≠ 0) (q : Int) (hq : q ≠ 0)
    (e3 : guest 0 8 (cm 8 f len) root gpa 3 = (0, 0, q)) (e2 : guest 0 8 (cm 8 f len) root gpa 2 = (0, 0, q)) (e1 : guest 0 8 (cm 8 f len) root gpa 1 = (0, 0, q)) :
    Calls Try.prog 3 #[.agg (caseV A len cap satp root user sum mxr), .int .u64 gpa] W fun e w' => e = .returned (.bool true) ∧ Below W.heap.size W w' := by
  have R := Lib.hid r
  have HL := Lib.hid hl
  have HR := Lib.hid (show U64 root from hr)
  have HG := Lib.hid hg
  have E3 := Lib.hid e3
  have E2 := Lib.hid e2
  have E1 := Lib.hid e1
  have AW := Lib.hid awake_any
  have hu := Try.underlying31
  have hu2 := Try.underlying27
  have hu3 := Try.underlying25
  have d0 : (root == 0) = false := by simpa using h0
  have dq : (q == 0) = false := by simpa using hq
  have dq2 : (q != 0) = true := by simpa using hq
  have b0_2 : bits .and .i64 0 2 = 0 := by decide
  have b0_4 : bits .and .i64 0 4 = 0 := by decide
  have b0_8 : bits .and .i64 0 8 = 0 := by decide
  clear r hl hr hg e3 e2 e1 h0
  unfold caseV
  go_enter Try.func3, Try.ntmps3
  go_wp2_with (first
    | ((with_reducible refine Step.gate_box (t := 27) rfl ?_); refine Step.fresh (cs := #[.slice A len cap, .int .u64 satp, .int .u64 root, .bool user, .bool sum, .bool mxr]) (T := 27) rfl ?hr ?_; (case hr => first | (go_simp; done) | (go_simp; rfl)); intro g1 w1 b hg hb; have B1 := Lib.hid b; have HB1 := Lib.hid hb; clear b hg hb)
    | ((with_reducible refine Step.gate_load (t := 27) rfl ?_); refine Step.loadAll B1.out rfl rfl rfl hu2 rfl size_case ?_)
    | (go_at_call 11; refine (case_any _ A len cap f satp root user sum mxr ((R.out.mod (Mod.of_below HB1.out Nil) (fun k hk h => h) (fun k hk => hk)).wide (fun k hk => Nat.lt_of_lt_of_le hk HB1.out.size)) HL.out).mono ?_; rintro e w3 ⟨h1, h2, F1, F2, rfl, d⟩; have D := Lib.hid d; have B13 := Lib.hid (B1.out.mod d.mod (fun h => h)); clear d)
    | ((with_reducible refine Step.gate_alloc (t := 31) rfl ?_); refine Step.freshAlloc rfl rfl (alloc_agg zero_two) ?_; intro g2 w4 b hg hb; have B2 := Lib.hid b; have D2 := Lib.hid (D.out.below hb); have B14 := Lib.hid (B13.out.below hb); have HG2 := Lib.hid (show ∀ k, F1 k ∨ F2 k → k ≠ g2 from fun k h e => by subst e; have := D.out.bound k h; omega); have HN2 := Lib.hid (show w1.heap.size ≤ g2 from Nat.le_trans D.out.mod.size hg); have NE := Lib.hid (show g1 ≠ g2 from by have := B13.out.lt; omega); clear b hg hb)
    | ((with_reducible refine Step.gate_store (t := 31) rfl ?_); refine Step.storeAll (vs := #[.pointer (some ⟨h1, 0, none⟩), .pointer (some ⟨h2, 0, none⟩)]) B2.out rfl rfl rfl rfl rfl size_two rfl rfl ?_; intro w5 nb m; have N2 := Lib.hid nb; have N1 := Lib.hid (B14.out.one m NE.out); have c0 := nb.cell 0; have k1 := N1.out.cell 1; have k2 := N1.out.cell 2; have k3 := N1.out.cell 3; have k4 := N1.out.cell 4; have k5 := N1.out.cell 5; have D3 := Lib.hid (D2.out.other m (fun k h e => HG2.out k h e) (fun k e => by obtain rfl : k = g2 := e; exact HN2.out)); simp only [List.getElem?_toArray, List.getElem?_cons_zero, List.getElem?_cons_succ] at c0 k1 k2 k3 k4 k5; clear nb m)
    | (go_at_call 12; (first
        | (have G3 := Lib.hid (guest_is D3.out.one root gpa 3 HR.out HG.out E3.out); (with_reducible refine (G3.out).mono ?_); rintro e w6 ⟨rfl, hb⟩; have D6 := Lib.hid (D3.out.below hb); have c6 := (N2.out.below hb).cell 0; have N6 := Lib.hid (N2.out.below hb); simp only [List.getElem?_toArray, List.getElem?_cons_zero, List.getElem?_cons_succ] at c6; clear hb c0 k1 k2 k3 k4 k5 G3)
        | (have G2 := Lib.hid (guest_is D6.out.one root gpa 2 HR.out HG.out E2.out); (with_reducible refine (G2.out).mono ?_); rintro e w7 ⟨rfl, hb⟩; have D7 := Lib.hid (D6.out.below hb); have c7 := (N6.out.below hb).cell 0; simp only [List.getElem?_toArray, List.getElem?_cons_zero, List.getElem?_cons_succ] at c7; clear hb c6 G2)
        | (have G1 := Lib.hid (guest_is D7.out.one root gpa 1 HR.out HG.out E1.out); (with_reducible refine (G1.out).mono ?_); rintro e w8 ⟨rfl, hb⟩; have D8 := Lib.hid (D7.out.below hb); clear hb c7 G1)))
    | (go_at_call 13; refine (AW.out _).mono ?_; rintro e w9 ⟨rfl, hb⟩; have D9 := Lib.hid (D8.out.below hb); clear hb))
  go_ret
  exact ⟨rfl, HB1.out.trans (D9.out.out.mono HB1.out.size)⟩

set_option maxHeartbeats 4000000 in
theorem stores_a1 (A : Option Addr) (len cap : Nat) (f : Nat → Int × Int) (satp root : Int) (user sum mxr : Bool) (gpa : Int) (W : World) (r : RdC W A len f (· < W.heap.size)) (hl : len ≤ 9223372036854775807) (hr : U64 root) (hg : U64 gpa) (h0 : root ≠ 0) (X : Int)
    (e3 : guest 0 8 (cm 8 f len) root gpa 3 = (0, 0, 2)) (e2 : guest 0 8 (cm 8 f len) root gpa 2 = (X, 2, 0)) (e1 : guest 0 8 (cm 8 f len) root gpa 1 = (0, 0, 2)) :
    Calls Try.prog 3 #[.agg (caseV A len cap satp root user sum mxr), .int .u64 gpa] W fun e w' => e = .returned (.bool true) ∧ Below W.heap.size W w' := by
  have R := Lib.hid r
  have HL := Lib.hid hl
  have HR := Lib.hid (show U64 root from hr)
  have HG := Lib.hid hg
  have E3 := Lib.hid e3
  have E2 := Lib.hid e2
  have E1 := Lib.hid e1
  have AW := Lib.hid awake_any
  have hu := Try.underlying31
  have hu2 := Try.underlying27
  have hu3 := Try.underlying25
  have d0 : (root == 0) = false := by simpa using h0
  have b0_2 : bits .and .i64 0 2 = 0 := by decide
  have b0_4 : bits .and .i64 0 4 = 0 := by decide
  have b0_8 : bits .and .i64 0 8 = 0 := by decide
  have b2_2 : bits .and .i64 2 2 = 2 := by decide
  have b2_4 : bits .and .i64 2 4 = 0 := by decide
  have b2_8 : bits .and .i64 2 8 = 0 := by decide
  clear r hl hr hg e3 e2 e1 h0
  unfold caseV
  go_enter Try.func3, Try.ntmps3
  go_wp2_with (first
    | ((with_reducible refine Step.gate_box (t := 27) rfl ?_); refine Step.fresh (cs := #[.slice A len cap, .int .u64 satp, .int .u64 root, .bool user, .bool sum, .bool mxr]) (T := 27) rfl ?hr ?_; (case hr => first | (go_simp; done) | (go_simp; rfl)); intro g1 w1 b hg hb; have B1 := Lib.hid b; have HB1 := Lib.hid hb; clear b hg hb)
    | ((with_reducible refine Step.gate_load (t := 27) rfl ?_); refine Step.loadAll B1.out rfl rfl rfl hu2 rfl size_case ?_)
    | (go_at_call 11; refine (case_any _ A len cap f satp root user sum mxr ((R.out.mod (Mod.of_below HB1.out Nil) (fun k hk h => h) (fun k hk => hk)).wide (fun k hk => Nat.lt_of_lt_of_le hk HB1.out.size)) HL.out).mono ?_; rintro e w3 ⟨h1, h2, F1, F2, rfl, d⟩; have D := Lib.hid d; have B13 := Lib.hid (B1.out.mod d.mod (fun h => h)); clear d)
    | ((with_reducible refine Step.gate_alloc (t := 31) rfl ?_); refine Step.freshAlloc rfl rfl (alloc_agg zero_two) ?_; intro g2 w4 b hg hb; have B2 := Lib.hid b; have D2 := Lib.hid (D.out.below hb); have B14 := Lib.hid (B13.out.below hb); have HG2 := Lib.hid (show ∀ k, F1 k ∨ F2 k → k ≠ g2 from fun k h e => by subst e; have := D.out.bound k h; omega); have HN2 := Lib.hid (show w1.heap.size ≤ g2 from Nat.le_trans D.out.mod.size hg); have NE := Lib.hid (show g1 ≠ g2 from by have := B13.out.lt; omega); clear b hg hb)
    | ((with_reducible refine Step.gate_store (t := 31) rfl ?_); refine Step.storeAll (vs := #[.pointer (some ⟨h1, 0, none⟩), .pointer (some ⟨h2, 0, none⟩)]) B2.out rfl rfl rfl rfl rfl size_two rfl rfl ?_; intro w5 nb m; have N2 := Lib.hid nb; have N1 := Lib.hid (B14.out.one m NE.out); have c0 := nb.cell 0; have k1 := N1.out.cell 1; have k2 := N1.out.cell 2; have k3 := N1.out.cell 3; have k4 := N1.out.cell 4; have k5 := N1.out.cell 5; have D3 := Lib.hid (D2.out.other m (fun k h e => HG2.out k h e) (fun k e => by obtain rfl : k = g2 := e; exact HN2.out)); simp only [List.getElem?_toArray, List.getElem?_cons_zero, List.getElem?_cons_succ] at c0 k1 k2 k3 k4 k5; clear nb m)
    | (go_at_call 12; (first
        | (have G3 := Lib.hid (guest_is D3.out.one root gpa 3 HR.out HG.out E3.out); (with_reducible refine (G3.out).mono ?_); rintro e w6 ⟨rfl, hb⟩; have D6 := Lib.hid (D3.out.below hb); have c6 := (N2.out.below hb).cell 0; have N6 := Lib.hid (N2.out.below hb); simp only [List.getElem?_toArray, List.getElem?_cons_zero, List.getElem?_cons_succ] at c6; clear hb c0 k1 k2 k3 k4 k5 G3)
        | (have G2 := Lib.hid (guest_is D6.out.one root gpa 2 HR.out HG.out E2.out); (with_reducible refine (G2.out).mono ?_); rintro e w7 ⟨rfl, hb⟩; have D7 := Lib.hid (D6.out.below hb); have c7 := (N6.out.below hb).cell 0; simp only [List.getElem?_toArray, List.getElem?_cons_zero, List.getElem?_cons_succ] at c7; clear hb c6 G2)
        | (have G1 := Lib.hid (guest_is D7.out.one root gpa 1 HR.out HG.out E1.out); (with_reducible refine (G1.out).mono ?_); rintro e w8 ⟨rfl, hb⟩; have D8 := Lib.hid (D7.out.below hb); clear hb c7 G1)))
    | (go_at_call 13; refine (AW.out _).mono ?_; rintro e w9 ⟨rfl, hb⟩; have D9 := Lib.hid (D8.out.below hb); clear hb))
  go_ret
  exact ⟨rfl, HB1.out.trans (D9.out.out.mono HB1.out.size)⟩

set_option maxHeartbeats 4000000 in
theorem stores_b1 (A : Option Addr) (len cap : Nat) (f : Nat → Int × Int) (satp root : Int) (user sum mxr : Bool) (gpa : Int) (W : World) (r : RdC W A len f (· < W.heap.size)) (hl : len ≤ 9223372036854775807) (hr : U64 root) (hg : U64 gpa) (h0 : root ≠ 0) (X : Int)
    (e3 : guest 0 8 (cm 8 f len) root gpa 3 = (X, 6, 0)) (e2 : guest 0 8 (cm 8 f len) root gpa 2 = (X, 6, 0)) (e1 : guest 0 8 (cm 8 f len) root gpa 1 = (0, 0, 2)) :
    Calls Try.prog 3 #[.agg (caseV A len cap satp root user sum mxr), .int .u64 gpa] W fun e w' => e = .returned (.bool true) ∧ Below W.heap.size W w' := by
  have R := Lib.hid r
  have HL := Lib.hid hl
  have HR := Lib.hid (show U64 root from hr)
  have HG := Lib.hid hg
  have E3 := Lib.hid e3
  have E2 := Lib.hid e2
  have E1 := Lib.hid e1
  have AW := Lib.hid awake_any
  have hu := Try.underlying31
  have hu2 := Try.underlying27
  have hu3 := Try.underlying25
  have d0 : (root == 0) = false := by simpa using h0
  have b0_2 : bits .and .i64 0 2 = 0 := by decide
  have b0_4 : bits .and .i64 0 4 = 0 := by decide
  have b0_8 : bits .and .i64 0 8 = 0 := by decide
  have b6_2 : bits .and .i64 6 2 = 2 := by decide
  have b6_4 : bits .and .i64 6 4 = 4 := by decide
  have b6_8 : bits .and .i64 6 8 = 0 := by decide
  clear r hl hr hg e3 e2 e1 h0
  unfold caseV
  go_enter Try.func3, Try.ntmps3
  go_wp2_with (first
    | ((with_reducible refine Step.gate_box (t := 27) rfl ?_); refine Step.fresh (cs := #[.slice A len cap, .int .u64 satp, .int .u64 root, .bool user, .bool sum, .bool mxr]) (T := 27) rfl ?hr ?_; (case hr => first | (go_simp; done) | (go_simp; rfl)); intro g1 w1 b hg hb; have B1 := Lib.hid b; have HB1 := Lib.hid hb; clear b hg hb)
    | ((with_reducible refine Step.gate_load (t := 27) rfl ?_); refine Step.loadAll B1.out rfl rfl rfl hu2 rfl size_case ?_)
    | (go_at_call 11; refine (case_any _ A len cap f satp root user sum mxr ((R.out.mod (Mod.of_below HB1.out Nil) (fun k hk h => h) (fun k hk => hk)).wide (fun k hk => Nat.lt_of_lt_of_le hk HB1.out.size)) HL.out).mono ?_; rintro e w3 ⟨h1, h2, F1, F2, rfl, d⟩; have D := Lib.hid d; have B13 := Lib.hid (B1.out.mod d.mod (fun h => h)); clear d)
    | ((with_reducible refine Step.gate_alloc (t := 31) rfl ?_); refine Step.freshAlloc rfl rfl (alloc_agg zero_two) ?_; intro g2 w4 b hg hb; have B2 := Lib.hid b; have D2 := Lib.hid (D.out.below hb); have B14 := Lib.hid (B13.out.below hb); have HG2 := Lib.hid (show ∀ k, F1 k ∨ F2 k → k ≠ g2 from fun k h e => by subst e; have := D.out.bound k h; omega); have HN2 := Lib.hid (show w1.heap.size ≤ g2 from Nat.le_trans D.out.mod.size hg); have NE := Lib.hid (show g1 ≠ g2 from by have := B13.out.lt; omega); clear b hg hb)
    | ((with_reducible refine Step.gate_store (t := 31) rfl ?_); refine Step.storeAll (vs := #[.pointer (some ⟨h1, 0, none⟩), .pointer (some ⟨h2, 0, none⟩)]) B2.out rfl rfl rfl rfl rfl size_two rfl rfl ?_; intro w5 nb m; have N2 := Lib.hid nb; have N1 := Lib.hid (B14.out.one m NE.out); have c0 := nb.cell 0; have k1 := N1.out.cell 1; have k2 := N1.out.cell 2; have k3 := N1.out.cell 3; have k4 := N1.out.cell 4; have k5 := N1.out.cell 5; have D3 := Lib.hid (D2.out.other m (fun k h e => HG2.out k h e) (fun k e => by obtain rfl : k = g2 := e; exact HN2.out)); simp only [List.getElem?_toArray, List.getElem?_cons_zero, List.getElem?_cons_succ] at c0 k1 k2 k3 k4 k5; clear nb m)
    | (go_at_call 12; (first
        | (have G3 := Lib.hid (guest_is D3.out.one root gpa 3 HR.out HG.out E3.out); (with_reducible refine (G3.out).mono ?_); rintro e w6 ⟨rfl, hb⟩; have D6 := Lib.hid (D3.out.below hb); have c6 := (N2.out.below hb).cell 0; have N6 := Lib.hid (N2.out.below hb); simp only [List.getElem?_toArray, List.getElem?_cons_zero, List.getElem?_cons_succ] at c6; clear hb c0 k1 k2 k3 k4 k5 G3)
        | (have G2 := Lib.hid (guest_is D6.out.one root gpa 2 HR.out HG.out E2.out); (with_reducible refine (G2.out).mono ?_); rintro e w7 ⟨rfl, hb⟩; have D7 := Lib.hid (D6.out.below hb); have c7 := (N6.out.below hb).cell 0; simp only [List.getElem?_toArray, List.getElem?_cons_zero, List.getElem?_cons_succ] at c7; clear hb c6 G2)
        | (have G1 := Lib.hid (guest_is D7.out.one root gpa 1 HR.out HG.out E1.out); (with_reducible refine (G1.out).mono ?_); rintro e w8 ⟨rfl, hb⟩; have D8 := Lib.hid (D7.out.below hb); clear hb c7 G1)))
    | (go_at_call 13; refine (AW.out _).mono ?_; rintro e w9 ⟨rfl, hb⟩; have D9 := Lib.hid (D8.out.below hb); clear hb))
  go_ret
  exact ⟨rfl, HB1.out.trans (D9.out.out.mono HB1.out.size)⟩

set_option maxHeartbeats 4000000 in
theorem stores_c1 (A : Option Addr) (len cap : Nat) (f : Nat → Int × Int) (satp root : Int) (user sum mxr : Bool) (gpa : Int) (W : World) (r : RdC W A len f (· < W.heap.size)) (hl : len ≤ 9223372036854775807) (hr : U64 root) (hg : U64 gpa) (h0 : root ≠ 0) (X : Int)
    (e3 : guest 0 8 (cm 8 f len) root gpa 3 = (0, 0, 2)) (e2 : guest 0 8 (cm 8 f len) root gpa 2 = (X, 10, 0)) (e1 : guest 0 8 (cm 8 f len) root gpa 1 = (X, 10, 0)) :
    Calls Try.prog 3 #[.agg (caseV A len cap satp root user sum mxr), .int .u64 gpa] W fun e w' => e = .returned (.bool true) ∧ Below W.heap.size W w' := by
  have R := Lib.hid r
  have HL := Lib.hid hl
  have HR := Lib.hid (show U64 root from hr)
  have HG := Lib.hid hg
  have E3 := Lib.hid e3
  have E2 := Lib.hid e2
  have E1 := Lib.hid e1
  have AW := Lib.hid awake_any
  have hu := Try.underlying31
  have hu2 := Try.underlying27
  have hu3 := Try.underlying25
  have d0 : (root == 0) = false := by simpa using h0
  have b0_2 : bits .and .i64 0 2 = 0 := by decide
  have b0_4 : bits .and .i64 0 4 = 0 := by decide
  have b0_8 : bits .and .i64 0 8 = 0 := by decide
  have b10_2 : bits .and .i64 10 2 = 2 := by decide
  have b10_4 : bits .and .i64 10 4 = 0 := by decide
  have b10_8 : bits .and .i64 10 8 = 8 := by decide
  clear r hl hr hg e3 e2 e1 h0
  unfold caseV
  go_enter Try.func3, Try.ntmps3
  go_wp2_with (first
    | ((with_reducible refine Step.gate_box (t := 27) rfl ?_); refine Step.fresh (cs := #[.slice A len cap, .int .u64 satp, .int .u64 root, .bool user, .bool sum, .bool mxr]) (T := 27) rfl ?hr ?_; (case hr => first | (go_simp; done) | (go_simp; rfl)); intro g1 w1 b hg hb; have B1 := Lib.hid b; have HB1 := Lib.hid hb; clear b hg hb)
    | ((with_reducible refine Step.gate_load (t := 27) rfl ?_); refine Step.loadAll B1.out rfl rfl rfl hu2 rfl size_case ?_)
    | (go_at_call 11; refine (case_any _ A len cap f satp root user sum mxr ((R.out.mod (Mod.of_below HB1.out Nil) (fun k hk h => h) (fun k hk => hk)).wide (fun k hk => Nat.lt_of_lt_of_le hk HB1.out.size)) HL.out).mono ?_; rintro e w3 ⟨h1, h2, F1, F2, rfl, d⟩; have D := Lib.hid d; have B13 := Lib.hid (B1.out.mod d.mod (fun h => h)); clear d)
    | ((with_reducible refine Step.gate_alloc (t := 31) rfl ?_); refine Step.freshAlloc rfl rfl (alloc_agg zero_two) ?_; intro g2 w4 b hg hb; have B2 := Lib.hid b; have D2 := Lib.hid (D.out.below hb); have B14 := Lib.hid (B13.out.below hb); have HG2 := Lib.hid (show ∀ k, F1 k ∨ F2 k → k ≠ g2 from fun k h e => by subst e; have := D.out.bound k h; omega); have HN2 := Lib.hid (show w1.heap.size ≤ g2 from Nat.le_trans D.out.mod.size hg); have NE := Lib.hid (show g1 ≠ g2 from by have := B13.out.lt; omega); clear b hg hb)
    | ((with_reducible refine Step.gate_store (t := 31) rfl ?_); refine Step.storeAll (vs := #[.pointer (some ⟨h1, 0, none⟩), .pointer (some ⟨h2, 0, none⟩)]) B2.out rfl rfl rfl rfl rfl size_two rfl rfl ?_; intro w5 nb m; have N2 := Lib.hid nb; have N1 := Lib.hid (B14.out.one m NE.out); have c0 := nb.cell 0; have k1 := N1.out.cell 1; have k2 := N1.out.cell 2; have k3 := N1.out.cell 3; have k4 := N1.out.cell 4; have k5 := N1.out.cell 5; have D3 := Lib.hid (D2.out.other m (fun k h e => HG2.out k h e) (fun k e => by obtain rfl : k = g2 := e; exact HN2.out)); simp only [List.getElem?_toArray, List.getElem?_cons_zero, List.getElem?_cons_succ] at c0 k1 k2 k3 k4 k5; clear nb m)
    | (go_at_call 12; (first
        | (have G3 := Lib.hid (guest_is D3.out.one root gpa 3 HR.out HG.out E3.out); (with_reducible refine (G3.out).mono ?_); rintro e w6 ⟨rfl, hb⟩; have D6 := Lib.hid (D3.out.below hb); have c6 := (N2.out.below hb).cell 0; have N6 := Lib.hid (N2.out.below hb); simp only [List.getElem?_toArray, List.getElem?_cons_zero, List.getElem?_cons_succ] at c6; clear hb c0 k1 k2 k3 k4 k5 G3)
        | (have G2 := Lib.hid (guest_is D6.out.one root gpa 2 HR.out HG.out E2.out); (with_reducible refine (G2.out).mono ?_); rintro e w7 ⟨rfl, hb⟩; have D7 := Lib.hid (D6.out.below hb); have c7 := (N6.out.below hb).cell 0; simp only [List.getElem?_toArray, List.getElem?_cons_zero, List.getElem?_cons_succ] at c7; clear hb c6 G2)
        | (have G1 := Lib.hid (guest_is D7.out.one root gpa 1 HR.out HG.out E1.out); (with_reducible refine (G1.out).mono ?_); rintro e w8 ⟨rfl, hb⟩; have D8 := Lib.hid (D7.out.below hb); clear hb c7 G1)))
    | (go_at_call 13; refine (AW.out _).mono ?_; rintro e w9 ⟨rfl, hb⟩; have D9 := Lib.hid (D8.out.below hb); clear hb))
  go_ret
  exact ⟨rfl, HB1.out.trans (D9.out.out.mono HB1.out.size)⟩

set_option maxHeartbeats 4000000 in
theorem stores_d1 (A : Option Addr) (len cap : Nat) (f : Nat → Int × Int) (satp root : Int) (user sum mxr : Bool) (gpa : Int) (W : World) (r : RdC W A len f (· < W.heap.size)) (hl : len ≤ 9223372036854775807) (hr : U64 root) (hg : U64 gpa) (h0 : root ≠ 0) (X : Int)
    (e3 : guest 0 8 (cm 8 f len) root gpa 3 = (X, 14, 0)) (e2 : guest 0 8 (cm 8 f len) root gpa 2 = (X, 14, 0)) (e1 : guest 0 8 (cm 8 f len) root gpa 1 = (X, 14, 0)) :
    Calls Try.prog 3 #[.agg (caseV A len cap satp root user sum mxr), .int .u64 gpa] W fun e w' => e = .returned (.bool true) ∧ Below W.heap.size W w' := by
  have R := Lib.hid r
  have HL := Lib.hid hl
  have HR := Lib.hid (show U64 root from hr)
  have HG := Lib.hid hg
  have E3 := Lib.hid e3
  have E2 := Lib.hid e2
  have E1 := Lib.hid e1
  have AW := Lib.hid awake_any
  have hu := Try.underlying31
  have hu2 := Try.underlying27
  have hu3 := Try.underlying25
  have d0 : (root == 0) = false := by simpa using h0
  have b14_2 : bits .and .i64 14 2 = 2 := by decide
  have b14_4 : bits .and .i64 14 4 = 4 := by decide
  have b14_8 : bits .and .i64 14 8 = 8 := by decide
  clear r hl hr hg e3 e2 e1 h0
  unfold caseV
  go_enter Try.func3, Try.ntmps3
  go_wp2_with (first
    | ((with_reducible refine Step.gate_box (t := 27) rfl ?_); refine Step.fresh (cs := #[.slice A len cap, .int .u64 satp, .int .u64 root, .bool user, .bool sum, .bool mxr]) (T := 27) rfl ?hr ?_; (case hr => first | (go_simp; done) | (go_simp; rfl)); intro g1 w1 b hg hb; have B1 := Lib.hid b; have HB1 := Lib.hid hb; clear b hg hb)
    | ((with_reducible refine Step.gate_load (t := 27) rfl ?_); refine Step.loadAll B1.out rfl rfl rfl hu2 rfl size_case ?_)
    | (go_at_call 11; refine (case_any _ A len cap f satp root user sum mxr ((R.out.mod (Mod.of_below HB1.out Nil) (fun k hk h => h) (fun k hk => hk)).wide (fun k hk => Nat.lt_of_lt_of_le hk HB1.out.size)) HL.out).mono ?_; rintro e w3 ⟨h1, h2, F1, F2, rfl, d⟩; have D := Lib.hid d; have B13 := Lib.hid (B1.out.mod d.mod (fun h => h)); clear d)
    | ((with_reducible refine Step.gate_alloc (t := 31) rfl ?_); refine Step.freshAlloc rfl rfl (alloc_agg zero_two) ?_; intro g2 w4 b hg hb; have B2 := Lib.hid b; have D2 := Lib.hid (D.out.below hb); have B14 := Lib.hid (B13.out.below hb); have HG2 := Lib.hid (show ∀ k, F1 k ∨ F2 k → k ≠ g2 from fun k h e => by subst e; have := D.out.bound k h; omega); have HN2 := Lib.hid (show w1.heap.size ≤ g2 from Nat.le_trans D.out.mod.size hg); have NE := Lib.hid (show g1 ≠ g2 from by have := B13.out.lt; omega); clear b hg hb)
    | ((with_reducible refine Step.gate_store (t := 31) rfl ?_); refine Step.storeAll (vs := #[.pointer (some ⟨h1, 0, none⟩), .pointer (some ⟨h2, 0, none⟩)]) B2.out rfl rfl rfl rfl rfl size_two rfl rfl ?_; intro w5 nb m; have N2 := Lib.hid nb; have N1 := Lib.hid (B14.out.one m NE.out); have c0 := nb.cell 0; have k1 := N1.out.cell 1; have k2 := N1.out.cell 2; have k3 := N1.out.cell 3; have k4 := N1.out.cell 4; have k5 := N1.out.cell 5; have D3 := Lib.hid (D2.out.other m (fun k h e => HG2.out k h e) (fun k e => by obtain rfl : k = g2 := e; exact HN2.out)); simp only [List.getElem?_toArray, List.getElem?_cons_zero, List.getElem?_cons_succ] at c0 k1 k2 k3 k4 k5; clear nb m)
    | (go_at_call 12; (first
        | (have G3 := Lib.hid (guest_is D3.out.one root gpa 3 HR.out HG.out E3.out); (with_reducible refine (G3.out).mono ?_); rintro e w6 ⟨rfl, hb⟩; have D6 := Lib.hid (D3.out.below hb); have c6 := (N2.out.below hb).cell 0; have N6 := Lib.hid (N2.out.below hb); simp only [List.getElem?_toArray, List.getElem?_cons_zero, List.getElem?_cons_succ] at c6; clear hb c0 k1 k2 k3 k4 k5 G3)
        | (have G2 := Lib.hid (guest_is D6.out.one root gpa 2 HR.out HG.out E2.out); (with_reducible refine (G2.out).mono ?_); rintro e w7 ⟨rfl, hb⟩; have D7 := Lib.hid (D6.out.below hb); have c7 := (N6.out.below hb).cell 0; simp only [List.getElem?_toArray, List.getElem?_cons_zero, List.getElem?_cons_succ] at c7; clear hb c6 G2)
        | (have G1 := Lib.hid (guest_is D7.out.one root gpa 1 HR.out HG.out E1.out); (with_reducible refine (G1.out).mono ?_); rintro e w8 ⟨rfl, hb⟩; have D8 := Lib.hid (D7.out.below hb); clear hb c7 G1)))
    | (go_at_call 13; refine (AW.out _).mono ?_; rintro e w9 ⟨rfl, hb⟩; have D9 := Lib.hid (D8.out.below hb); clear hb))
  go_ret
  exact ⟨rfl, HB1.out.trans (D9.out.out.mono HB1.out.size)⟩

set_option maxHeartbeats 4000000 in
theorem stores_e1 (A : Option Addr) (len cap : Nat) (f : Nat → Int × Int) (satp root : Int) (user sum mxr : Bool) (gpa : Int) (W : World) (r : RdC W A len f (· < W.heap.size)) (hl : len ≤ 9223372036854775807) (hr : U64 root) (hg : U64 gpa) (h0 : root ≠ 0) (X : Int)
    (e3 : guest 0 8 (cm 8 f len) root gpa 3 = (0, 0, 2)) (e2 : guest 0 8 (cm 8 f len) root gpa 2 = (0, 0, 2)) (e1 : guest 0 8 (cm 8 f len) root gpa 1 = (X, 8, 0)) :
    Calls Try.prog 3 #[.agg (caseV A len cap satp root user sum mxr), .int .u64 gpa] W fun e w' => e = .returned (.bool true) ∧ Below W.heap.size W w' := by
  have R := Lib.hid r
  have HL := Lib.hid hl
  have HR := Lib.hid (show U64 root from hr)
  have HG := Lib.hid hg
  have E3 := Lib.hid e3
  have E2 := Lib.hid e2
  have E1 := Lib.hid e1
  have AW := Lib.hid awake_any
  have hu := Try.underlying31
  have hu2 := Try.underlying27
  have hu3 := Try.underlying25
  have d0 : (root == 0) = false := by simpa using h0
  have b0_2 : bits .and .i64 0 2 = 0 := by decide
  have b0_4 : bits .and .i64 0 4 = 0 := by decide
  have b0_8 : bits .and .i64 0 8 = 0 := by decide
  have b8_2 : bits .and .i64 8 2 = 0 := by decide
  have b8_4 : bits .and .i64 8 4 = 0 := by decide
  have b8_8 : bits .and .i64 8 8 = 8 := by decide
  clear r hl hr hg e3 e2 e1 h0
  unfold caseV
  go_enter Try.func3, Try.ntmps3
  go_wp2_with (first
    | ((with_reducible refine Step.gate_box (t := 27) rfl ?_); refine Step.fresh (cs := #[.slice A len cap, .int .u64 satp, .int .u64 root, .bool user, .bool sum, .bool mxr]) (T := 27) rfl ?hr ?_; (case hr => first | (go_simp; done) | (go_simp; rfl)); intro g1 w1 b hg hb; have B1 := Lib.hid b; have HB1 := Lib.hid hb; clear b hg hb)
    | ((with_reducible refine Step.gate_load (t := 27) rfl ?_); refine Step.loadAll B1.out rfl rfl rfl hu2 rfl size_case ?_)
    | (go_at_call 11; refine (case_any _ A len cap f satp root user sum mxr ((R.out.mod (Mod.of_below HB1.out Nil) (fun k hk h => h) (fun k hk => hk)).wide (fun k hk => Nat.lt_of_lt_of_le hk HB1.out.size)) HL.out).mono ?_; rintro e w3 ⟨h1, h2, F1, F2, rfl, d⟩; have D := Lib.hid d; have B13 := Lib.hid (B1.out.mod d.mod (fun h => h)); clear d)
    | ((with_reducible refine Step.gate_alloc (t := 31) rfl ?_); refine Step.freshAlloc rfl rfl (alloc_agg zero_two) ?_; intro g2 w4 b hg hb; have B2 := Lib.hid b; have D2 := Lib.hid (D.out.below hb); have B14 := Lib.hid (B13.out.below hb); have HG2 := Lib.hid (show ∀ k, F1 k ∨ F2 k → k ≠ g2 from fun k h e => by subst e; have := D.out.bound k h; omega); have HN2 := Lib.hid (show w1.heap.size ≤ g2 from Nat.le_trans D.out.mod.size hg); have NE := Lib.hid (show g1 ≠ g2 from by have := B13.out.lt; omega); clear b hg hb)
    | ((with_reducible refine Step.gate_store (t := 31) rfl ?_); refine Step.storeAll (vs := #[.pointer (some ⟨h1, 0, none⟩), .pointer (some ⟨h2, 0, none⟩)]) B2.out rfl rfl rfl rfl rfl size_two rfl rfl ?_; intro w5 nb m; have N2 := Lib.hid nb; have N1 := Lib.hid (B14.out.one m NE.out); have c0 := nb.cell 0; have k1 := N1.out.cell 1; have k2 := N1.out.cell 2; have k3 := N1.out.cell 3; have k4 := N1.out.cell 4; have k5 := N1.out.cell 5; have D3 := Lib.hid (D2.out.other m (fun k h e => HG2.out k h e) (fun k e => by obtain rfl : k = g2 := e; exact HN2.out)); simp only [List.getElem?_toArray, List.getElem?_cons_zero, List.getElem?_cons_succ] at c0 k1 k2 k3 k4 k5; clear nb m)
    | (go_at_call 12; (first
        | (have G3 := Lib.hid (guest_is D3.out.one root gpa 3 HR.out HG.out E3.out); (with_reducible refine (G3.out).mono ?_); rintro e w6 ⟨rfl, hb⟩; have D6 := Lib.hid (D3.out.below hb); have c6 := (N2.out.below hb).cell 0; have N6 := Lib.hid (N2.out.below hb); simp only [List.getElem?_toArray, List.getElem?_cons_zero, List.getElem?_cons_succ] at c6; clear hb c0 k1 k2 k3 k4 k5 G3)
        | (have G2 := Lib.hid (guest_is D6.out.one root gpa 2 HR.out HG.out E2.out); (with_reducible refine (G2.out).mono ?_); rintro e w7 ⟨rfl, hb⟩; have D7 := Lib.hid (D6.out.below hb); have c7 := (N6.out.below hb).cell 0; simp only [List.getElem?_toArray, List.getElem?_cons_zero, List.getElem?_cons_succ] at c7; clear hb c6 G2)
        | (have G1 := Lib.hid (guest_is D7.out.one root gpa 1 HR.out HG.out E1.out); (with_reducible refine (G1.out).mono ?_); rintro e w8 ⟨rfl, hb⟩; have D8 := Lib.hid (D7.out.below hb); clear hb c7 G1)))
    | (go_at_call 13; refine (AW.out _).mono ?_; rintro e w9 ⟨rfl, hb⟩; have D9 := Lib.hid (D8.out.below hb); clear hb))
  go_ret
  exact ⟨rfl, HB1.out.trans (D9.out.out.mono HB1.out.size)⟩

theorem cm_byte (n : Nat) (f : Nat → Int × Int) : ∀ k i, 0 ≤ cm n f k i ∧ cm n f k i < 256
  | 0, i => ⟨Int.le_refl _, by show (0 : Int) < 256; decide⟩
  | k + 1, i => by
    show 0 ≤ wr (cm n f k) _ 8 _ i ∧ _
    show 0 ≤ wr (cm n f k) (8 * ((f k).1 % ((512 * n : Nat) : Int))).toNat 8 (f k).2 i ∧ wr (cm n f k) (8 * ((f k).1 % ((512 * n : Nat) : Int))).toNat 8 (f k).2 i < 256
    unfold wr
    split
    · omega
    · exact cm_byte n f k i
theorem stores_any (A : Option Addr) (len cap : Nat) (f : Nat → Int × Int) (satp root : Int) (user sum mxr : Bool) (gpa : Int) (W : World) (r : RdC W A len f (· < W.heap.size)) (hl : len ≤ 9223372036854775807) (hs : U64 satp) (hr : U64 root) (w1 : (Lit.int .u64 gpa).wf = true) :
    Calls Try.prog 3 #[.agg (caseV A len cap satp root user sum mxr), .int .u64 gpa] W fun e w' => e = .returned (.bool true) ∧ Below W.heap.size W w' := by
  have hg := u64_wf w1
  by_cases h0 : root = 0
  · rcases stores_cases (cm 8 f len) (fun i _ => cm_byte 8 f len i) 1 gpa (by decide) with ⟨q, hq, e3, e2, e1⟩ | ⟨X, h | h | h | h | h⟩
    · exact stores_n0 A len cap f satp root user sum mxr gpa W r hl hr hg h0 q hq e3 e2 e1
    · exact stores_a0 A len cap f satp root user sum mxr gpa W r hl hr hg h0 X h.1 h.2.1 h.2.2
    · exact stores_b0 A len cap f satp root user sum mxr gpa W r hl hr hg h0 X h.1 h.2.1 h.2.2
    · exact stores_c0 A len cap f satp root user sum mxr gpa W r hl hr hg h0 X h.1 h.2.1 h.2.2
    · exact stores_d0 A len cap f satp root user sum mxr gpa W r hl hr hg h0 X h.1 h.2.1 h.2.2
    · exact stores_e0 A len cap f satp root user sum mxr gpa W r hl hr hg h0 X h.1 h.2.1 h.2.2
  · rcases stores_cases (cm 8 f len) (fun i _ => cm_byte 8 f len i) root gpa h0 with ⟨q, hq, e3, e2, e1⟩ | ⟨X, h | h | h | h | h⟩
    · exact stores_n1 A len cap f satp root user sum mxr gpa W r hl hr hg h0 q hq e3 e2 e1
    · exact stores_a1 A len cap f satp root user sum mxr gpa W r hl hr hg h0 X h.1 h.2.1 h.2.2
    · exact stores_b1 A len cap f satp root user sum mxr gpa W r hl hr hg h0 X h.1 h.2.1 h.2.2
    · exact stores_c1 A len cap f satp root user sum mxr gpa W r hl hr hg h0 X h.1 h.2.1 h.2.2
    · exact stores_d1 A len cap f satp root user sum mxr gpa W r hl hr hg h0 X h.1 h.2.1 h.2.2
    · exact stores_e1 A len cap f satp root user sum mxr gpa W r hl hr hg h0 X h.1 h.2.1 h.2.2
end Go.Proofs.Ytfoocpcpljlndaa.Duo
