/- Layer 3: what form's bits are. -/
import Derived.Test.YtopbdiekfhikmaaE4F
namespace Go.Proofs.Ytopbdiekfhikmaa
open Go.RowKit
def an12 (i : Int) : Nat := ((i % 4294967296) / 4096 * 4096).toNat
theorem an12_cast (i : Int) : ((an12 i : Nat) : Int) = bits .andNot .u32 (i % 4294967296) 4095 := by
  obtain ⟨b, hb⟩ : ∃ b : Nat, i % 4294967296 = b := ⟨(i % 4294967296).toNat, by omega⟩
  have hb2 : b < 4294967296 := by omega
  unfold an12
  rw [hb]
  clear hb
  show _ = IntKind.u32.wrap ((BitVec.ofInt 32 (b : Int) &&& ~~~BitVec.ofInt 32 4095).toNat : Int)
  have e1 : ((b : Int) % (2 ^ 32 : Nat)).toNat = b := by omega
  have e2 : 2 ^ 32 - 1 - ((4095 : Int) % (2 ^ 32 : Nat)).toNat = (2 ^ 20 - 1) <<< 12 := by decide
  rw [BitVec.toNat_and, BitVec.toNat_not, bv_toNat, bv_toNat, e1, e2, nat_and_high 12 20 b (by omega)]
  unfold IntKind.wrap
  simp [IntKind.signed, IntKind.bits]
  omega
theorem shl12 (a : Nat) (w : World) : (binOp .shl 22 (.int .u32 (a : Int)) (.int .u64 12)).run Try.prog w = .ok (.int .u32 ((a * 4096 % 4294967296 : Nat) : Int)) w := by
  have h : (binOp .shl 22 (.int .u32 (a : Int)) (.int .u64 12)).run Try.prog w = .ok (.int .u32 (IntKind.u32.wrap ((a : Int) * 4096))) w := by kernel_rfl
  rw [h]
  simp [IntKind.wrap, IntKind.signed, IntKind.bits]
theorem shl14 (a : Nat) (w : World) : (binOp .shl 22 (.int .u32 (a : Int)) (.int .u64 14)).run Try.prog w = .ok (.int .u32 ((a * 16384 % 4294967296 : Nat) : Int)) w := by
  have h : (binOp .shl 22 (.int .u32 (a : Int)) (.int .u64 14)).run Try.prog w = .ok (.int .u32 (IntKind.u32.wrap ((a : Int) * 16384))) w := by kernel_rfl
  rw [h]
  simp [IntKind.wrap, IntKind.signed, IntKind.bits]
def brL : List Int := [5, 6, 0, 0, 7, 8, 9, 10]
def atL : List Int := [41, 40, 38, 39, 42, 0, 0, 0, 44, 0, 0, 0, 43, 0, 0, 0, 45, 0, 0, 0, 46, 0, 0, 0, 47, 0, 0, 0, 48, 0, 0, 0]
def formN (k rd r1 r2 r3 rm c sz i : Int) (ui us wd : Bool) : Nat × Bool :=
  if k = 1 then (or32 (or32 (55) (putN rd 7 5)) (an12 i), true)
  else if k = 2 then (or32 (or32 (23) (putN rd 7 5)) (an12 i), true)
  else if k = 3 then (or32 (or32 (or32 (or32 (or32 (111) (putN rd 7 5)) (putN (i / 2) 21 10)) (putN (i / 2048) 20 1)) (putN (i / 4096) 12 8)) (putN (i / 1048576) 31 1), true)
  else if k = 4 then (or32 (103) (iN rd r1 i), true)
  else if k = 11 then (or32 (or32 (or32 (3) (logN sz * 4096 % 4294967296)) (us.toNat * 16384 % 4294967296)) (iN rd r1 i), true)
  else if k = 12 then (or32 (or32 (35) (logN sz * 4096 % 4294967296)) (sN r1 r2 i), true)
  else if k = 53 then (or32 (or32 (7) (logN sz * 4096 % 4294967296)) (iN rd r1 i), true)
  else if k = 54 then (or32 (or32 (39) (logN sz * 4096 % 4294967296)) (sN r1 r2 i), true)
  else if k = 31 then (15, true)
  else if k = 32 then (4111, true)
  else if k = 33 then (115, true)
  else if k = 34 then (1048691, true)
  else if k = 50 then (270532723, true)
  else if k = 49 then (807403635, true)
  else if k = 51 then (273678451, true)
  else if k = 52 then (or32 (301990003) (rN rd r1 r2), true)
  else if k = 35 then (if ui = true then (or32 (or32 (or32 (or32 (115) (20480)) (putN rd 7 5)) (putN i 15 5)) (putN c 20 12), true) else (or32 (or32 (or32 (or32 (115) (4096)) (putN rd 7 5)) (putN r1 15 5)) (putN c 20 12), true))
  else if k = 36 then (if ui = true then (or32 (or32 (or32 (or32 (115) (24576)) (putN rd 7 5)) (putN i 15 5)) (putN c 20 12), true) else (or32 (or32 (or32 (or32 (115) (8192)) (putN rd 7 5)) (putN r1 15 5)) (putN c 20 12), true))
  else if k = 37 then (if ui = true then (or32 (or32 (or32 (or32 (115) (28672)) (putN rd 7 5)) (putN i 15 5)) (putN c 20 12), true) else (or32 (or32 (or32 (or32 (115) (12288)) (putN rd 7 5)) (putN r1 15 5)) (putN c 20 12), true))
  else if k = 5 then (or32 (or32 (or32 (or32 (or32 (or32 (or32 (99) (0)) (putN r1 15 5)) (putN r2 20 5)) (putN (i / 2) 8 4)) (putN (i / 32) 25 6)) (putN (i / 2048) 7 1)) (putN (i / 4096) 31 1), true)
  else if k = 6 then (or32 (or32 (or32 (or32 (or32 (or32 (or32 (99) (4096)) (putN r1 15 5)) (putN r2 20 5)) (putN (i / 2) 8 4)) (putN (i / 32) 25 6)) (putN (i / 2048) 7 1)) (putN (i / 4096) 31 1), true)
  else if k = 7 then (or32 (or32 (or32 (or32 (or32 (or32 (or32 (99) (16384)) (putN r1 15 5)) (putN r2 20 5)) (putN (i / 2) 8 4)) (putN (i / 32) 25 6)) (putN (i / 2048) 7 1)) (putN (i / 4096) 31 1), true)
  else if k = 8 then (or32 (or32 (or32 (or32 (or32 (or32 (or32 (99) (20480)) (putN r1 15 5)) (putN r2 20 5)) (putN (i / 2) 8 4)) (putN (i / 32) 25 6)) (putN (i / 2048) 7 1)) (putN (i / 4096) 31 1), true)
  else if k = 9 then (or32 (or32 (or32 (or32 (or32 (or32 (or32 (99) (24576)) (putN r1 15 5)) (putN r2 20 5)) (putN (i / 2) 8 4)) (putN (i / 32) 25 6)) (putN (i / 2048) 7 1)) (putN (i / 4096) 31 1), true)
  else if k = 10 then (or32 (or32 (or32 (or32 (or32 (or32 (or32 (99) (28672)) (putN r1 15 5)) (putN r2 20 5)) (putN (i / 2) 8 4)) (putN (i / 32) 25 6)) (putN (i / 2048) 7 1)) (putN (i / 4096) 31 1), true)
  else if k = 38 then (or32 (or32 (or32 (47) (logN sz * 4096 % 4294967296)) (268435456)) (rN rd r1 r2), true)
  else if k = 39 then (or32 (or32 (or32 (47) (logN sz * 4096 % 4294967296)) (402653184)) (rN rd r1 r2), true)
  else if k = 40 then (or32 (or32 (or32 (47) (logN sz * 4096 % 4294967296)) (134217728)) (rN rd r1 r2), true)
  else if k = 41 then (or32 (or32 (or32 (47) (logN sz * 4096 % 4294967296)) (0)) (rN rd r1 r2), true)
  else if k = 42 then (or32 (or32 (or32 (47) (logN sz * 4096 % 4294967296)) (536870912)) (rN rd r1 r2), true)
  else if k = 43 then (or32 (or32 (or32 (47) (logN sz * 4096 % 4294967296)) (1610612736)) (rN rd r1 r2), true)
  else if k = 44 then (or32 (or32 (or32 (47) (logN sz * 4096 % 4294967296)) (1073741824)) (rN rd r1 r2), true)
  else if k = 45 then (or32 (or32 (or32 (47) (logN sz * 4096 % 4294967296)) (2147483648)) (rN rd r1 r2), true)
  else if k = 46 then (or32 (or32 (or32 (47) (logN sz * 4096 % 4294967296)) (2684354560)) (rN rd r1 r2), true)
  else if k = 47 then (or32 (or32 (or32 (47) (logN sz * 4096 % 4294967296)) (3221225472)) (rN rd r1 r2), true)
  else if k = 48 then (or32 (or32 (or32 (47) (logN sz * 4096 % 4294967296)) (3758096384)) (rN rd r1 r2), true)
  else if (sumN k rd r1 r2 i ui wd).2 = true then ((sumN k rd r1 r2 i ui wd).1, true)
  else floN k rd r1 r2 r3 rm sz us wd
theorem branches_ab (w : World) : Calls Try.prog 21 #[] w fun e w' => ∃ A : Array Value, Hid (A = (brL.map fun v => Value.int .i64 v).toArray) ∧ e = .returned (.agg A) ∧ ∃ o, w' = w.alloc o :=
  (branches_any w).mono fun _ _ ⟨h1, h2⟩ => ⟨_, rfl, h1, h2⟩
theorem atomics_ab (w : World) : Calls Try.prog 38 #[] w fun e w' => ∃ A : Array Value, Hid (A = (atL.map fun v => Value.int .i64 v).toArray) ∧ e = .returned (.agg A) ∧ ∃ o, w' = w.alloc o :=
  (atomics_any w).mono fun _ _ ⟨h1, h2⟩ => ⟨_, rfl, h1, h2⟩
theorem info38 {B : Array Value} (h : Hid (B = (brL.map fun v => Value.int .i64 v).toArray)) : (Try.prog.info? 38).map (·.size) = some B.size ∧ (#[.int .i64 0, .int .i64 0, .int .i64 0, .int .i64 0, .int .i64 0, .int .i64 0, .int .i64 0, .int .i64 0] : Array Value).size = B.size ∧ B.all (·.oneCell') = true := by
  rw [unhide h]
  exact ⟨by kernel_rfl, rfl, by kernel_rfl⟩
theorem info52 {B : Array Value} (h : Hid (B = (atL.map fun v => Value.int .i64 v).toArray)) : (Try.prog.info? 52).map (·.size) = some B.size ∧ (#[.int .i64 0, .int .i64 0, .int .i64 0, .int .i64 0, .int .i64 0, .int .i64 0, .int .i64 0, .int .i64 0, .int .i64 0, .int .i64 0, .int .i64 0, .int .i64 0, .int .i64 0, .int .i64 0, .int .i64 0, .int .i64 0, .int .i64 0, .int .i64 0, .int .i64 0, .int .i64 0, .int .i64 0, .int .i64 0, .int .i64 0, .int .i64 0, .int .i64 0, .int .i64 0, .int .i64 0, .int .i64 0, .int .i64 0, .int .i64 0, .int .i64 0, .int .i64 0] : Array Value).size = B.size ∧ B.all (·.oneCell') = true := by
  rw [unhide h]
  exact ⟨by kernel_rfl, rfl, by kernel_rfl⟩
theorem wpL_store_row {P : Program} {ops : Array Oper} {rest : List Oper} {op : Oper} {a : Act} {w : World} {Q : Exit → Act → World → Prop} (hgd : op.guard = none) (ty : TypeId) (x y : Operand) (ho : op.op = .store ty x y)
    (g : Nat) (cells : Array Value) (hx : a.eval x = .pointer (some ⟨g, 0, none⟩)) (hy : a.eval y = .agg cells) (t : TypeId) (old : Array Value) (hg : w.heap[g]? = some (.cells old t (0, 0)))
    (hi : (P.info? ty).map (·.size) = some cells.size) (hold : old.size = cells.size) (h1 : cells.all (·.oneCell') = true)
    (h : wpList P ops Q rest (a.put op.dst undef) (w.setRow g cells)) : wpList P ops Q (op :: rest) a w :=
  wpList_plain hgd fun _ hK => wp_store_row ty x y ho g cells hx hy t old hg hi hold h1 (hK _ _ h)
theorem cutF {w W0 : World} {c : Code} {Q : Exit → Act → World → Prop} {a : Act} {g5 g6 : Nat} {x y z : Array Value} (hg : GN w W0) (hx : W0.heap[w.heap.size]? = some (.cells x 25 (0, 0))) (h5 : W0.heap[g5]? = some (.cells y 38 (0, 0))) (h6 : W0.heap[g6]? = some (.cells z 52 (0, 0)))
    (k : ∀ W, GN w W → W.heap[w.heap.size]? = some (.cells x 25 (0, 0)) → W.heap[g5]? = some (.cells y 38 (0, 0)) → W.heap[g6]? = some (.cells z 52 (0, 0)) → Code.wp Try.prog c Q a W) : Code.wp Try.prog c Q a W0 := k W0 hg hx h5 h6
theorem form_blocks (w : World) (X Z8 Z32 B A : Array Value) (o1 o2 : Obj) :
    GN w (((((((w.alloc (.cells X 25)).alloc o1).alloc o2).alloc (.cells Z8 38)).alloc (.cells Z32 52)).setRow (w.heap.size + 1 + 1 + 1) B).setRow (w.heap.size + 1 + 1 + 1 + 1) A) ∧
    (((((((w.alloc (.cells X 25)).alloc o1).alloc o2).alloc (.cells Z8 38)).alloc (.cells Z32 52)).setRow (w.heap.size + 1 + 1 + 1) B).setRow (w.heap.size + 1 + 1 + 1 + 1) A).heap[w.heap.size]? = some (.cells X 25 (0, 0)) ∧
    (((((((w.alloc (.cells X 25)).alloc o1).alloc o2).alloc (.cells Z8 38)).alloc (.cells Z32 52)).setRow (w.heap.size + 1 + 1 + 1) B).setRow (w.heap.size + 1 + 1 + 1 + 1) A).heap[w.heap.size + 1 + 1 + 1]? = some (.cells B 38 (0, 0)) ∧
    (((((((w.alloc (.cells X 25)).alloc o1).alloc o2).alloc (.cells Z8 38)).alloc (.cells Z32 52)).setRow (w.heap.size + 1 + 1 + 1) B).setRow (w.heap.size + 1 + 1 + 1 + 1) A).heap[w.heap.size + 1 + 1 + 1 + 1]? = some (.cells A 52 (0, 0)) :=
  ⟨GN.setRow (GN.setRow ((((((GN.refl w).alloc _).alloc _).alloc _).alloc _).alloc _) (by omega) _) (by omega) _,
   row_ne (by omega) (row_ne (by omega) (hp_alloc (hp_alloc (hp_alloc (hp_alloc (hp_last rfl)))))),
   row_ne (by omega) (row_self (hp_alloc (hp_last (by simp)))), row_self (row_ne (by omega) (hp_last (by simp)))⟩
theorem form_start {w : World} {X Z8 Z32 B A : Array Value} {o1 o2 : Obj} {c : Code} {Q : Exit → Act → World → Prop} {a : Act}
    (k : ∀ W, GN w W → W.heap[w.heap.size]? = some (.cells X 25 (0, 0)) → W.heap[w.heap.size + 1 + 1 + 1]? = some (.cells B 38 (0, 0)) → W.heap[w.heap.size + 1 + 1 + 1 + 1]? = some (.cells A 52 (0, 0)) → Code.wp Try.prog c Q a W) :
    Code.wp Try.prog c Q a (((((((w.alloc (.cells X 25)).alloc o1).alloc o2).alloc (.cells Z8 38)).alloc (.cells Z32 52)).setRow (w.heap.size + 1 + 1 + 1) B).setRow (w.heap.size + 1 + 1 + 1 + 1) A) :=
  have h := form_blocks w X Z8 Z32 B A o1 o2
  k _ h.1 h.2.1 h.2.2.1 h.2.2.2
end Go.Proofs.Ytopbdiekfhikmaa
