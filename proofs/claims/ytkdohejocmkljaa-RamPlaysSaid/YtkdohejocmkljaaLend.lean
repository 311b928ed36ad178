/- Bytes in new memory: CopyBytes, Lend, Back. -/
import Derived.Test.YtkdohejocmkljaaCopies
import Derived.Laws.AppendOwn
import Derived.Laws.OwnMore
namespace Go.Proofs.Ytkdohejocmkljaa.Mem
open Go Go.RowKit Go.Proofs.Ytkdohejocmkljaa.Step
set_option linter.unusedVariables false
set_option linter.unusedSimpArgs false
set_option maxRecDepth 100000

/-- The bytes as a list of cells. -/
def lst (n : Nat) (f : Nat → Int) : List Value := (List.range n).map fun k => .int .u8 (f k)
theorem lst_len (n : Nat) (f : Nat → Int) : (lst n f).length = n := by simp [lst]
theorem lst_at (n : Nat) (f : Nat → Int) {k : Nat} (h : k < n) : (lst n f)[k]? = some (.int .u8 (f k)) := by simp [lst, h]
theorem lst_one (n : Nat) (f : Nat → Int) : ∀ u ∈ lst n f, u.oneCell' = true := by
  intro u hu
  obtain ⟨k, _, rfl⟩ := List.mem_map.1 hu
  rfl
theorem lst_succ (n : Nat) (f : Nat → Int) : lst n f ++ [.int .u8 (f n)] = lst (n + 1) f := by simp [lst, List.range_succ]
theorem info_u8 : ∃ i, Try.prog.info? 5 = some i ∧ i.size = 1 ∧ i.bytes = 1 ∧ i.zero = some (.int .u8 0) := by
  have h := mk_u8
  cases hi : Try.prog.info? 5 with
  | none => rw [hi] at h; cases h
  | some i =>
    rw [hi] at h
    simp only [Option.map_some, Option.some.injEq, Prod.mk.injEq] at h
    exact ⟨i, rfl, h⟩
/-- An argument's bytes, nil or not. -/
structure Arg (W : World) (A : Option Addr) (n c : Nat) (f : Nat → Int) (G : Nat → Prop) : Prop where
  rd : Rd W A n f G
  nil_ : A = none → n = 0 ∧ c = 0

set_option maxHeartbeats 1000000 in
theorem copyBytes_any {W : World} {A : Option Addr} {n c : Nat} {f : Nat → Int} {G : Nat → Prop} (r : Arg W A n c f G) (hn : n ≤ 140737488355328) :
    Calls Try.prog 28 #[.slice A n c] W fun e W' => ∃ v, e = .returned v ∧ W'.ownsRow W.heap.size 5 1 v n (lst n f) ∧ Below W.heap.size W W' := by
  obtain ⟨i, hi, hs, hb, hz⟩ := info_u8
  have R := Lib.hid r
  have HI := Lib.hid hi
  have HS := Lib.hid hs
  have HB := Lib.hid hb
  have HZ := Lib.hid hz
  clear hi hs hb hz r
  cases A with
  | none =>
    obtain ⟨rfl, rfl⟩ := R.out.nil_ rfl
    go_enter Try.func28, Try.ntmps28
    go_wp2
    go_ret
    exact ⟨_, rfl, World.ownsRow_nil _ _ _ _, Below.refl _ _⟩
  | some ad =>
    go_enter Try.func28, Try.ntmps28
    go_wp2_with ((with_reducible refine wpList_append_own (w := W) rfl _ _ 35 rfl W.heap.size 5 i _ 1 1 Try.underlying35 HI.out HZ.out HS.out HB.out rfl (by omega) (.slice none 0 0) 0 [] rfl (World.ownsRow_nil _ _ _ _) ad n c (lst n f) rfl ?h1 ?h2 (lst_one _ _) ?h3 ?h4 (Nat.le_refl _) ?_); rotate_right; intro v' w' own' grow' hv; have OW := Lib.hid own'; have GR := Lib.hid grow'; clear own' grow' hv)
    case h1 => rw [lst_len, Nat.mul_one]
    case h2 =>
      intro j u hu
      have hj : j < n := by have := (List.getElem?_eq_some_iff.1 hu).1; rwa [lst_len] at this
      rw [lst_at n f hj] at hu
      obtain ⟨ad', e, _, hc, _⟩ := R.out.rd j hj
      obtain rfl := Option.some.inj e
      rw [hc]; exact hu
    case h3 => unfold maxLen; omega
    case h4 => omega
    go_ret
    refine ⟨_, rfl, ?_, (Below.refl _ _).grown GR.out (Nat.le_refl _) (fun k hk => by cases hk)⟩
    have := OW.out
    rwa [Nat.zero_add, List.nil_append] at this

theorem own_form {w : World} {base m : Nat} {v : Value} {f : Nat → Int} (h : w.ownsRow base 5 1 v m (lst m f)) (hm : 0 < m) : ∃ g cap cur, v = .slice (some ⟨g, 0, none⟩) m cap ∧ m ≤ cap ∧ Blk w g cur 5 ∧ (∀ k, k < m → cur[k]? = some (.int .u8 (f k))) ∧ base ≤ g := by
  obtain ⟨_, h | ⟨g, cap, cur, hv, hb, ho, hn, hc, hs, ht⟩⟩ := h
  · omega
  · refine ⟨g, cap, cur, hv, hn, ⟨ho⟩, fun k hk => ?_, hb⟩
    have h1 := lst_at m f hk
    rw [← ht, List.getElem?_take, if_pos (by omega)] at h1
    simpa using h1
/-- The bytes, with 70 marks behind them. -/
def marks (n : Nat) (f : Nat → Int) : Nat → Int := fun k => if k < n then f k else 101 + ((k : Int) - n)
theorem lst_marks (n : Nat) (f : Nat → Int) : lst n (marks n f) = lst n f := by
  unfold lst
  refine List.map_congr_left fun k hk => ?_
  rw [marks, if_pos (List.mem_range.1 hk)]
set_option maxHeartbeats 1000000 in
theorem lend_any {W : World} {A : Option Addr} {n c : Nat} {f : Nat → Int} {G : Nat → Prop} (r : Arg W A n c f G) (hn : n ≤ 4096) :
    Calls Try.prog 18 #[.slice A n c] W fun e W' => ∃ g cap cur, e = .returned (.tuple #[.slice (some ⟨g, 0, none⟩) n cap, .slice (some ⟨g, 0, none⟩) (n + 70) cap]) ∧ Blk W' g cur 5 ∧ (∀ k, k < n + 70 → cur[k]? = some (.int .u8 (marks n f k))) ∧ W.heap.size ≤ g ∧ Below W.heap.size W W' := by
  obtain ⟨i, hi, hs, hb, hz⟩ := info_u8
  have HI := Lib.hid hi
  have HS := Lib.hid hs
  have HB := Lib.hid hb
  have HZ := Lib.hid hz
  have C := Lib.hid (copyBytes_any r (by omega))
  clear hi hs hb hz r
  go_enter Try.func18, Try.ntmps18
  go_wp2_with (go_at_call 28; refine (C.out).mono ?_; rintro e w1 ⟨v, rfl, own, bel⟩; have OW := Lib.hid own; have BL := Lib.hid bel; clear own bel)
  go_loopw [4, 5] (fun v i w => ∃ k : Nat, k ≤ 70 ∧ i = .int .i64 k ∧ w.ownsRow W.heap.size 5 1 v (n + k) (lst (n + k) (marks n f)) ∧ Below W.heap.size W w) (fun _ i _ => (70 - intOf i).toNat)
  case atStart => exact ⟨0, by omega, rfl, by rw [Nat.add_zero, lst_marks]; exact OW.out, BL.out⟩
  case round =>
    obtain ⟨k, hk, rfl, own, bel⟩ := hrel
    have OW1 := Lib.hid own
    have BL1 := Lib.hid bel
    clear own bel OW BL
    by_cases hlt : k < 70
    · have hbase := BL1.out.size
      have HBASE := Lib.hid (show W.heap.size ≤ (wr.alloc (.cells #[.int .u8 (101 + (k : Int))] 5 (0, 0))).heap.size by simp; omega)
      have OW2 := Lib.hid (OW1.out.alloc (.cells #[.int .u8 (101 + (k : Int))] 5 (0, 0)))
      have BA := Lib.hid (BL1.out.alloc hbase (.cells #[.int .u8 (101 + (k : Int))] 5 (0, 0)))
      have NW := Lib.hid (alloc_out wr #[.int .u8 (101 + (k : Int))] 5)
      clear hbase
      go_wp2_with (at_builtin; refine wpList_append_own _ rfl _ _ 35 rfl W.heap.size 5 i _ 1 1 Try.underlying35 HI.out HZ.out HS.out HB.out rfl (by omega) _ (n + k) (lst (n + k) (marks n f)) rfl OW2.out ⟨wr.heap.size, 0, none⟩ 1 1 [.int .u8 (101 + (k : Int))] rfl rfl ?h2 (by intro u hu; obtain rfl := List.mem_singleton.1 hu; rfl) ?h3 ?h4 HBASE.out ?_; rotate_right; intro v' w' own' grow' hv; have OW3 := Lib.hid own'; have GR := Lib.hid grow'; clear own' grow' hv)
      case h2 =>
        intro j u hu
        have hj : j = 0 := by have := (List.getElem?_eq_some_iff.1 hu).1; simp at this; omega
        subst hj
        have := NW.out.cell 0
        simp only [List.getElem?_toArray] at this
        rw [show (⟨wr.heap.size, 0, none⟩ : Addr).add 0 = ⟨wr.heap.size, 0, none⟩ from rfl, this]; exact hu
      case h3 => unfold maxLen; omega
      case h4 => omega
      refine ⟨⟨k + 1, by omega, by go_num, ?_, ?_⟩, by simp [intOf]; omega⟩
      · have h := OW3.out
        have e : (Value.int .u8 (101 + (k : Int))) = .int .u8 (marks n f (n + k)) := by rw [marks, if_neg (by omega)]; congr 1; omega
        rw [e, lst_succ] at h
        exact h
      · exact BA.out.grown GR.out HBASE.out fun g hg => (OW2.out.lt g hg).1
    · obtain rfl : k = 70 := by omega
      obtain ⟨g, cap, cur, rfl, hcap, hb, hcur, hg⟩ := own_form OW1.out (by omega)
      have HB1 := Lib.hid hb
      have HC := Lib.hid hcur
      have HG := Lib.hid hg
      have c1 : n ≤ cap := by omega
      clear hb hcur hg OW1
      go_wp2
      exact bodyPost_ret (results_tmp2 rfl _ _ _) rfl ⟨g, cap, cur, rfl, HB1.out, HC.out, HG.out, BL1.out⟩

set_option maxHeartbeats 600000 in
theorem back_any {W : World} {A B : Option Addr} {n c cb : Nat} {f g : Nat → Int} {G G' : Nat → Prop} (ra : Rd W A n f G) (rb : Rd W B (n + 70) g G') (hn : n ≤ 4096) (hg : ∀ k, k < n + 70 → g k = marks n f k) :
    Calls Try.prog 19 #[.slice A n c, .slice B (n + 70) cb] W fun e W' => e = .returned (.bool true) ∧ ∃ k, W' = W.drewN k := by
  have RA := Lib.hid ra
  have RB := Lib.hid rb
  have HG := Lib.hid hg
  clear ra rb hg
  go_enter Try.func19, Try.ntmps19
  go_wp2
  go_loopw [5] (fun i w => ∃ k : Nat, k ≤ n + 70 ∧ i = .int .i64 k ∧ ∃ m, w = W.drewN m) (fun i _ => (n + 70 - intOf i).toNat)
  case atStart => exact ⟨0, Nat.zero_le _, rfl, 0, rfl⟩
  case round =>
    obtain ⟨k, hk, rfl, hm⟩ := hrel
    have HM := Lib.hid hm
    by_cases hlt : k < n + 70
    · obtain ⟨bd, rfl, _, hd, hb1, hb2⟩ := (RB.out.drawn hm) k hlt
      by_cases hin : k < n
      · obtain ⟨ad, rfl, _, hc, hf1, hf2⟩ := (RA.out.drawn hm) k hin
        have e : g k = f k := by rw [HG.out k hlt, marks, if_pos hin]
        rw [e] at hd
        have d1 : decide ((k : Int) < n) = true := decide_eq_true (by omega)
        have d3 : decide (n ≤ k) = false := decide_eq_false (by omega)
        have d4 : decide (k < n) = true := decide_eq_true hin
        clear hm e hb1 hb2
        go_wp2
        go_quiet (fail)
        go_wp2
        refine ⟨⟨k + 1, by omega, by go_num, ?_⟩, by simp [intOf]; omega⟩
        obtain ⟨m, hm⟩ := HM.out
        exact ⟨m + nq, by rw [hm, World.drewN_drewN]⟩
      · have e : g k = 101 + ((k : Int) - n) := by rw [HG.out k hlt, marks, if_neg hin]
        rw [e] at hd
        have d1 : decide ((k : Int) < n) = false := decide_eq_false (by omega)
        have d3 : decide (n ≤ k) = true := decide_eq_true (by omega)
        have d4 : decide (k < n) = false := decide_eq_false hin
        have hin' : n ≤ k := by omega
        clear hin
        have s1 : IntKind.i64.wrap (101 + (k : Int)) = 101 + k := IntWalk.i64_in _ (by omega)
        have s2 : IntKind.i64.wrap (101 + (k : Int) - n) = 101 + k - n := IntWalk.i64_in _ (by omega)
        have s3 : IntKind.u8.wrap (101 + (k : Int) - n) = 101 + ((k : Int) - n) := by rw [IntWalk.u8_in _ (by omega)]; omega
        clear hm e hb1 hb2
        go_wp2
        go_quiet (fail)
        go_wp2
        refine ⟨⟨k + 1, by omega, by go_num, ?_⟩, by simp [intOf]; omega⟩
        obtain ⟨m, hm⟩ := HM.out
        exact ⟨m + nq, by rw [hm, World.drewN_drewN]⟩
    · clear hm
      obtain rfl : k = n + 70 := by omega
      go_wp2
      go_ret
      exact ⟨rfl, HM.out⟩
end Go.Proofs.Ytkdohejocmkljaa.Mem
