/- The document's memory: what its blocks hold, and what get and put make of it. -/
import Derived.Test.YtkdohejocmkljaaPair
import Derived.Deep.RegionHeld3
import Derived.Laws.Cover3
namespace Go.Proofs.Ytkdohejocmkljaa.Ref
open Go Go.RowKit Go.Proofs.Ytkdohejocmkljaa.Step Go.Proofs.Ytkdohejocmkljaa.Mem
set_option linter.unusedVariables false
set_option linter.unusedSimpArgs false
set_option maxRecDepth 100000

theorem pl_sl : Step.plainT Try.prog 35 = true := by kernel_rfl
def sl : Option (Nat × Nat) → Value
  | none => .slice none 0 0
  | some (g, c) => .slice (some ⟨g, 0, none⟩) 4096 c

theorem eql_nil (w : World) : (binOp .eql 35 (.slice none 0 0) (.slice none 0 0)).run Try.prog w = .ok (.bool true) w := by
  have := run_equal_slice_nil (P := Try.prog) w 35 _ none 0 0 Try.underlying35
  simp [binOp, this, Result.andThen]
theorem eql_some (w : World) (ad : Addr) (n c : Nat) : (binOp .eql 35 (.slice (some ad) n c) (.slice none 0 0)).run Try.prog w = .ok (.bool false) w := by
  have := run_equal_slice_nil (P := Try.prog) w 35 _ (some ad) n c Try.underlying35
  simp [binOp, this, Result.andThen]
set_option maxHeartbeats 1000000 in
theorem get_nil (W : World) (h fb n : Nat) (base addr : Int) (k : Nat) (hb : 0 ≤ base) (ha : base ≤ addr) (ha2 : addr < 18446744073709551616) (hk : (addr - base) / 4096 = (k : Int)) (hkn : k < n) (hn : n ≤ 1024)
    (c0 : W.cell? ⟨h, 0, none⟩ = some (.int .u64 base)) (c1 : W.cell? ⟨h, 2, none⟩ = some (.slice (some ⟨fb, 0, none⟩) n n)) (ck : W.cell? ⟨fb, k, none⟩ = some (.slice none 0 0)) :
    Calls Try.prog 40 #[.pointer (some ⟨h, 0, none⟩), .int .u64 addr] W fun e W' => e = .returned (.int .u8 0) ∧ W = W' := by
  have hs : IntKind.u64.wrap (addr - base) = addr - base := IntWalk.u64_in _ (by omega)
  have hu35 := eql_nil
  have hu36 := eql_some
  go_enter Try.func40, Try.ntmps40
  go_wp2
  go_ret
  exact ⟨rfl, rfl⟩

set_option maxHeartbeats 1000000 in
theorem get_frame (W : World) (h fb n g c : Nat) (base addr v : Int) (k j : Nat) (hb : 0 ≤ base) (ha : base ≤ addr) (ha2 : addr < 18446744073709551616) (hk : (addr - base) / 4096 = (k : Int)) (hj : (addr - base) % 4096 = (j : Int)) (hjn : j < 4096) (hkn : k < n) (hn : n ≤ 1024)
    (c0 : W.cell? ⟨h, 0, none⟩ = some (.int .u64 base)) (c1 : W.cell? ⟨h, 2, none⟩ = some (.slice (some ⟨fb, 0, none⟩) n n)) (ck : W.cell? ⟨fb, k, none⟩ = some (.slice (some ⟨g, 0, none⟩) 4096 c)) (cj : W.cell? ⟨g, j, none⟩ = some (.int .u8 v)) :
    Calls Try.prog 40 #[.pointer (some ⟨h, 0, none⟩), .int .u64 addr] W fun e W' => e = .returned (.int .u8 v) ∧ W = W' := by
  have hs : IntKind.u64.wrap (addr - base) = addr - base := IntWalk.u64_in _ (by omega)
  have hu35 := eql_nil
  have hu36 := eql_some
  go_enter Try.func40, Try.ntmps40
  go_wp2
  go_ret
  exact ⟨rfl, rfl⟩

set_option maxHeartbeats 1000000 in
theorem put_old (W : World) (h fb n g c : Nat) (base addr v : Int) (cs bs : Array Value) (k j : Nat) (hb : 0 ≤ base) (ha : base ≤ addr) (ha2 : addr < 18446744073709551616) (hk : (addr - base) / 4096 = (k : Int)) (hj : (addr - base) % 4096 = (j : Int)) (hjn : j < 4096) (hkn : k < n) (hn : n ≤ 1024)
    (b0 : Step.Blk W h #[.int .u64 base, .int .i64 n, .slice (some ⟨fb, 0, none⟩) n n] 74) (b1 : Step.Blk W fb cs 35) (ck : cs[k]? = some (.slice (some ⟨g, 0, none⟩) 4096 c)) (b2 : Step.Blk W g bs 5) (hbs : 4096 ≤ bs.size) :
    Calls Try.prog 39 #[.pointer (some ⟨h, 0, none⟩), .int .u64 addr, .int .u8 v] W fun e W' => e = .returned (.tuple #[]) ∧ Step.Blk W' g (bs.setIfInBounds j (.int .u8 v)) 5 ∧ Step.Mod (Step.One g) W W' := by
  have hs : IntKind.u64.wrap (addr - base) = addr - base := IntWalk.u64_in _ (by omega)
  have hu35 := eql_nil
  have hu36 := eql_some
  have c0 := b0.cell 0
  have c1 := b0.cell 2
  have ck' := (b1.cell k).trans ck
  have B2 := Lib.hid b2
  have HJ2 := Lib.hid (show Nat.blt j bs.size = true from Nat.ble_eq_true_of_le (by omega))
  clear hbs b0 b1 ck b2
  simp only [List.getElem?_toArray, List.getElem?_cons_zero, List.getElem?_cons_succ] at c0 c1
  go_enter Try.func39, Try.ntmps39
  go_wp2_with (first
    | ((with_reducible refine Step.gate_store (t := 5) rfl ?_); refine Step.store B2.out rfl rfl rfl rfl rfl pl_u8 rfl HJ2.out ?_; intro w1 n2 m; have N2 := Lib.hid n2; have M := Lib.hid m; clear n2 m))
  go_end0
  exact ⟨rfl, N2.out, M.out⟩

theorem make_4096 (w : World) : (Instr.makeSlice 35 (.int .i64 4096) (.int .i64 4096)).run Try.prog w = .ok (.slice (some ⟨w.heap.size, 0, none⟩) 4096 4096) (w.alloc (.cells (row 4096 fun _ => 0) 5 (0, 0))) := make_u8 4096 (by omega) w
set_option maxHeartbeats 1000000 in
theorem put_new (W : World) (h fb n : Nat) (base addr v : Int) (cs : Array Value) (k j : Nat) (hb : 0 ≤ base) (ha : base ≤ addr) (ha2 : addr < 18446744073709551616) (hk : (addr - base) / 4096 = (k : Int)) (hj : (addr - base) % 4096 = (j : Int)) (hjn : j < 4096) (hkn : k < n) (hn : n ≤ 1024)
    (b0 : Step.Blk W h #[.int .u64 base, .int .i64 n, .slice (some ⟨fb, 0, none⟩) n n] 74) (b1 : Step.Blk W fb cs 35) (hcs : cs.size = n) (hne : h ≠ fb) (ck : cs[k]? = some (.slice none 0 0)) :
    Calls Try.prog 39 #[.pointer (some ⟨h, 0, none⟩), .int .u64 addr, .int .u8 v] W fun e W' => e = .returned (.tuple #[]) ∧ ∃ g, Step.Blk W' g (row 4096 (upd (fun _ => 0) j v)) 5 ∧ Step.Blk W' fb (cs.setIfInBounds k (.slice (some ⟨g, 0, none⟩) 4096 4096)) 35 ∧ W.heap.size ≤ g ∧ Step.Mod (Step.One fb) W W' := by
  have hs : IntKind.u64.wrap (addr - base) = addr - base := IntWalk.u64_in _ (by omega)
  have hu35 := eql_nil
  have hu36 := eql_some
  have c0 := b0.cell 0
  have c1 := b0.cell 2
  have ck' := (b1.cell k).trans ck
  have lt0 := b0.lt
  have lt1 := b1.lt
  have B0 := Lib.hid b0
  have B1 := Lib.hid b1
  have HK2 := Lib.hid (show Nat.blt k cs.size = true by rw [hcs]; exact Nat.ble_eq_true_of_le hkn)
  have HMK := make_4096
  have fz : ∀ o, ((W.alloc o).drew).frozen? ⟨fb, k, none⟩ = false := fun o => ((b1.below (alloc_below W o)).frozen k)
  have hne2 : (⟨h, 2, none⟩ : Addr) ≠ ⟨fb, k, none⟩ := fun e => hne (congrArg Addr.block e)
  have hne3 : ¬ h = fb := hne
  have fz3 : ∀ o, (W.alloc o).frozen? ⟨fb, k, none⟩ = false := fun o => ((b1.below (alloc_below W o)).frozen k)
  have hkeep : ∀ v o, (((W.setCell ⟨fb, k, none⟩ v).alloc o).drew).cell? ⟨h, 2, none⟩ = some (.slice (some ⟨fb, 0, none⟩) n n) := fun v o => ((((b0.one (setCell_mod W fb k v) hne).below (alloc_below _ o)).cell 2).trans rfl : _)
  clear b0 b1 ck hcs
  simp only [List.getElem?_toArray, List.getElem?_cons_zero, List.getElem?_cons_succ] at c0 c1
  go_enter Try.func39, Try.ntmps39
  go_wp2
  go_region_held3 (fun w' => w'.cell? ⟨h, 2, none⟩ = some (.slice (some ⟨fb, 0, none⟩) n n)) (first | go_keep | exact hkeep _ _) (fail)
  rename_i hHeld
  have hsz : (W.setCell ⟨fb, k, none⟩ (.slice (some ⟨W.heap.size, 0, none⟩) 4096 4096)).heap.size = W.heap.size := by simp [World.setCell]
  have al : Below (W.setCell ⟨fb, k, none⟩ (.slice (some ⟨W.heap.size, 0, none⟩) 4096 4096)).heap.size (W.setCell ⟨fb, k, none⟩ (.slice (some ⟨W.heap.size, 0, none⟩) 4096 4096)) ((W.setCell ⟨fb, k, none⟩ (.slice (some ⟨W.heap.size, 0, none⟩) 4096 4096)).alloc (.cells (row 4096 fun _ => 0) 5 (0, 0))).drew := (alloc_below _ _).drew
  obtain ⟨W2, hW2⟩ : ∃ W2, W2 = ((W.setCell ⟨fb, k, none⟩ (.slice (some ⟨W.heap.size, 0, none⟩) 4096 4096)).alloc (.cells (row 4096 fun _ => 0) 5 (0, 0))).drew := ⟨_, rfl⟩
  have m1 : Step.Mod (Step.One fb) W W2 := by rw [hW2]; exact (setCell_mod W fb k _).trans (Mod.of_below al _)
  have bf : Step.Blk W2 fb (cs.setIfInBounds k (.slice (some ⟨W.heap.size, 0, none⟩) 4096 4096)) 35 := by rw [hW2]; exact (setCell_out W fb k _ cs _ B1.out).below al
  have bg : Step.Blk W2 W.heap.size (row 4096 fun _ => 0) 5 := by
    have := (alloc_out (W.setCell ⟨fb, k, none⟩ (.slice (some ⟨W.heap.size, 0, none⟩) 4096 4096)) (row 4096 fun _ => 0) 5)
    rw [hsz] at this
    rw [hW2]; exact ⟨this.out⟩
  have d2 := ((B0.out.one m1 hne).cell 2)
  have dk := bf.cell k
  rw [Array.getElem?_setIfInBounds_self_of_lt (Nat.le_of_ble_eq_true HK2.out)] at dk
  simp only [List.getElem?_toArray, List.getElem?_cons_zero, List.getElem?_cons_succ] at d2
  have M1 := Lib.hid m1
  have BF := Lib.hid bf
  have BG := Lib.hid bg
  have HJ := Lib.hid (show Nat.blt j (row 4096 fun _ => 0).size = true by rw [row_size]; exact Nat.ble_eq_true_of_le hjn)
  have lf := Lib.hid lt1
  rw [← hW2]
  clear hW2 m1 bf bg al hsz hHeld hne2 hne3 c0 c1 ck' HMK fz fz3 hkeep
  go_wp2_with (first
    | ((with_reducible refine Step.gate_store (t := 5) rfl ?_); refine Step.store BG.out rfl rfl rfl rfl rfl pl_u8 rfl HJ.out ?_; intro w1 n2 m; have N2 := Lib.hid n2; have M := Lib.hid m; clear n2 m))
  go_end0
  have lf' := lf.out
  refine ⟨rfl, W.heap.size, ?_, BF.out.one M.out (by omega), Nat.le_refl _, M1.out.trans_new M.out fun i hi e => by obtain rfl : i = W.heap.size := e; omega⟩
  have nb : Step.Blk w1 W.heap.size ((row 4096 fun _ => 0).setIfInBounds j (.int .u8 v)) 5 := N2.out
  rwa [row_set] at nb
end Go.Proofs.Ytkdohejocmkljaa.Ref
