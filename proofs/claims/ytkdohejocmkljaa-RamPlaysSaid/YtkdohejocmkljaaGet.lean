/- The bytes of a memory, one by one: what ram.get reads and ram.put writes where block facts tell the cells. -/
import Derived.Test.YtkdohejocmkljaaProg
import Derived.Test.YtkdohejocmkljaaStep
import Derived.Outline
import Derived.IntWalk
import Derived.Lib.Hide
namespace Go.Proofs.Ytkdohejocmkljaa.Mem
open Go Go.RowKit
set_option linter.unusedVariables false
set_option maxRecDepth 100000
set_option linter.unusedSimpArgs false

theorem pl_u64 : Step.plainT Try.prog 22 = true := by kernel_rfl
theorem pl_u8 : Step.plainT Try.prog 5 = true := by kernel_rfl
theorem pl_fr : Step.plainT Try.prog 69 = true := by kernel_rfl
theorem pl_frs : Step.plainT Try.prog 64 = true := by kernel_rfl

def zeros : Array Value := Array.replicate 4096 (.int .u8 0)
theorem zero_frame0 : ((Try.prog.info? 71).bind (·.zero)).map (fun v => match v with | .agg z => z.toList.all (fun x => match x with | .int .u8 0 => true | _ => false) && z.size == 4096 | _ => false) = some true := by kernel_rfl
theorem zero_frame : ∃ i, Try.prog.info? 71 = some i ∧ i.zero = some (.agg zeros) := by
  have h := zero_frame0
  cases hi : Try.prog.info? 71 with
  | none => rw [hi] at h; cases h
  | some i =>
    refine ⟨i, rfl, ?_⟩
    rw [hi] at h
    simp only [Option.bind_some] at h
    cases hz : i.zero with
    | none => rw [hz] at h; cases h
    | some v =>
      rw [hz] at h
      simp only [Option.map_some, Option.some.injEq] at h
      cases v with
      | agg z =>
        simp only [Bool.and_eq_true, beq_iff_eq, List.all_eq_true] at h
        refine congrArg (fun a => some (Value.agg a)) (Array.ext (by simp [zeros, h.2]) fun j h1 h2 => ?_)
        have := h.1 z[j] (by simp)
        simp only [zeros, Array.getElem_replicate]
        revert this
        generalize z[j] = x
        intro this
        split at this <;> first | rfl | cases this
      | _ => cases h
theorem alloc_frame (W : World) : (Instr.alloc 71 true (.tuple #[])).run Try.prog W = .ok (.pointer (some ⟨W.heap.size, 0, none⟩)) (W.alloc (.cells zeros 71 (0, 0))) := by
  obtain ⟨i, hi, hz⟩ := zero_frame
  simp [Instr.alloc, zeroValue, typeInfo, hi, hz, newVar, newRow, newObj, Result.andThen, Value.cells, go_sem]
  rfl

set_option maxHeartbeats 1000000 in
theorem get_nil (W : World) (h fb n : Nat) (base addr : Int) (k : Nat) (hb : 0 ≤ base) (ha : base ≤ addr) (ha2 : addr < 18446744073709551616) (hk : (addr - base) / 4096 = (k : Int)) (hkn : k < n) (hn : n ≤ 1024)
    (c0 : W.cell? ⟨h, 0, none⟩ = some (.int .u64 base)) (c1 : W.cell? ⟨h, 1, none⟩ = some (.slice (some ⟨fb, 0, none⟩) n n)) (ck : W.cell? ⟨fb, k, none⟩ = some (.pointer none)) :
    Calls Try.prog 35 #[.pointer (some ⟨h, 0, none⟩), .int .u64 addr] W fun e W' => e = .returned (.int .u8 0) ∧ W = W' := by
  have hs : IntKind.u64.wrap (addr - base) = addr - base := IntWalk.u64_in _ (by omega)
  go_enter Try.func35, Try.ntmps35
  go_wp2
  go_ret
  exact ⟨rfl, rfl⟩

set_option maxHeartbeats 1000000 in
theorem get_frame (W : World) (h fb n g : Nat) (base addr v : Int) (k j : Nat) (hb : 0 ≤ base) (ha : base ≤ addr) (ha2 : addr < 18446744073709551616) (hk : (addr - base) / 4096 = (k : Int)) (hj : (addr - base) % 4096 = (j : Int)) (hjn : j < 4096) (hkn : k < n) (hn : n ≤ 1024)
    (c0 : W.cell? ⟨h, 0, none⟩ = some (.int .u64 base)) (c1 : W.cell? ⟨h, 1, none⟩ = some (.slice (some ⟨fb, 0, none⟩) n n)) (ck : W.cell? ⟨fb, k, none⟩ = some (.pointer (some ⟨g, 0, none⟩))) (cj : W.cell? ⟨g, j, none⟩ = some (.int .u8 v)) :
    Calls Try.prog 35 #[.pointer (some ⟨h, 0, none⟩), .int .u64 addr] W fun e W' => e = .returned (.int .u8 v) ∧ W = W' := by
  have hs : IntKind.u64.wrap (addr - base) = addr - base := IntWalk.u64_in _ (by omega)
  go_enter Try.func35, Try.ntmps35
  go_wp2
  go_ret
  exact ⟨rfl, rfl⟩

set_option maxHeartbeats 1000000 in
theorem put_old (W : World) (h fb n g : Nat) (base addr v : Int) (cs bs : Array Value) (k j : Nat) (hb : 0 ≤ base) (ha : base ≤ addr) (ha2 : addr < 18446744073709551616) (hk : (addr - base) / 4096 = (k : Int)) (hj : (addr - base) % 4096 = (j : Int)) (hjn : j < 4096) (hkn : k < n) (hn : n ≤ 1024)
    (b0 : Step.Blk W h #[.int .u64 base, .slice (some ⟨fb, 0, none⟩) n n] 66) (b1 : Step.Blk W fb cs 69) (ck : cs[k]? = some (.pointer (some ⟨g, 0, none⟩))) (b2 : Step.Blk W g bs 71) (hbs : bs.size = 4096) :
    Calls Try.prog 36 #[.pointer (some ⟨h, 0, none⟩), .int .u64 addr, .int .u8 v] W fun e W' => e = .returned (.tuple #[]) ∧ Step.Blk W' g (bs.setIfInBounds j (.int .u8 v)) 71 ∧ Step.Mod (Step.One g) W W' := by
  have hs : IntKind.u64.wrap (addr - base) = addr - base := IntWalk.u64_in _ (by omega)
  have c0 := b0.cell 0
  have c1 := b0.cell 1
  have ck' := (b1.cell k).trans ck
  have B2 := Lib.hid b2
  have HJ : Nat.blt j bs.size = true := by rw [hbs]; exact Nat.ble_eq_true_of_le hjn
  have HJ2 := Lib.hid HJ
  clear HJ hbs b0 b1 ck b2
  simp at c0 c1
  go_enter Try.func36, Try.ntmps36
  go_wp2_with (first
    | ((with_reducible refine Step.gate_store (t := 5) rfl ?_); refine Step.store B2.out rfl rfl rfl rfl rfl pl_u8 rfl HJ2.out ?_; intro w1 n2 m; have N2 := Lib.hid n2; have M := Lib.hid m; clear n2 m))
  go_end0
  exact ⟨rfl, N2.out, M.out⟩

set_option maxHeartbeats 1000000 in
theorem put_new (W : World) (h fb n : Nat) (base addr v : Int) (cs : Array Value) (k j : Nat) (hb : 0 ≤ base) (ha : base ≤ addr) (ha2 : addr < 18446744073709551616) (hk : (addr - base) / 4096 = (k : Int)) (hj : (addr - base) % 4096 = (j : Int)) (hjn : j < 4096) (hkn : k < n) (hn : n ≤ 1024)
    (b0 : Step.Blk W h #[.int .u64 base, .slice (some ⟨fb, 0, none⟩) n n] 66) (b1 : Step.Blk W fb cs 69) (hcs : cs.size = n) (hne : h ≠ fb) (ck : cs[k]? = some (.pointer none)) :
    Calls Try.prog 36 #[.pointer (some ⟨h, 0, none⟩), .int .u64 addr, .int .u8 v] W fun e W' => e = .returned (.tuple #[]) ∧ ∃ g, Step.Blk W' g (zeros.setIfInBounds j (.int .u8 v)) 71 ∧ Step.Blk W' fb (cs.setIfInBounds k (.pointer (some ⟨g, 0, none⟩))) 69 ∧ W.heap.size ≤ g ∧ Step.Mod (Step.One fb) W W' := by
  have hs : IntKind.u64.wrap (addr - base) = addr - base := IntWalk.u64_in _ (by omega)
  have c0 := b0.cell 0
  have c1 := b0.cell 1
  have ck' := (b1.cell k).trans ck
  have lt0 := b0.lt
  have lt1 := b1.lt
  have B0 := Lib.hid b1
  have HJ : Nat.blt j zeros.size = true := by simp [zeros]; exact hjn
  have HJ2 := Lib.hid HJ
  have HK : Nat.blt k cs.size = true := by simp [hcs]; exact hkn
  have HK2 := Lib.hid HK
  clear HJ HK b0 b1 ck hcs
  simp at c0 c1
  go_enter Try.func36, Try.ntmps36
  go_wp2_with (first
    | ((with_reducible refine Step.gate_alloc (t := 71) rfl ?_); refine Step.freshAlloc rfl rfl alloc_frame ?_; intro g w1 b2 hg hbel;
        have c0' := (hbel.cell (p := ⟨h, 0, none⟩) lt0).trans c0; have c1' := (hbel.cell (p := ⟨h, 1, none⟩) lt0).trans c1; have ck1 := (hbel.cell (p := ⟨fb, k, none⟩) lt1).trans ck'; have B1 := Lib.hid (B0.out.below hbel); have B2 := Lib.hid b2; have HM := Lib.hid (Step.Mod.of_below hbel (Step.One fb)); have HG := Lib.hid hg; have HGF := Lib.hid (show g ≠ fb by omega); have HGH := Lib.hid (show h ≠ g by omega); clear hbel b2 c0 c1 ck' hg)
    | ((with_reducible refine Step.gate_store (t := 69) rfl ?_); refine Step.store B1.out rfl rfl rfl rfl rfl pl_fr rfl HK2.out ?_; intro w2 n2 m; have N1 := Lib.hid n2; have B3 := Lib.hid (B2.out.one m HGF.out); have M1 := Lib.hid m; clear n2 m)
    | ((with_reducible refine Step.gate_store (t := 5) rfl ?_); refine Step.store B3.out rfl rfl rfl rfl rfl pl_u8 rfl HJ2.out ?_; intro w3 n2 m; have N2 := Lib.hid n2; have N3 := Lib.hid (N1.out.one m HGF.out.symm); have M2 := Lib.hid m; clear n2 m))
  go_end0
  refine ⟨rfl, g, N2.out, N3.out, HG.out, ?_⟩
  refine (HM.out.trans M1.out).trans_new M2.out fun i hi e => ?_
  have := HG.out
  obtain rfl : i = g := e
  omega
end Go.Proofs.Ytkdohejocmkljaa.Mem
