/- Layer 3: what form's bits are. / Layer 3: leaves. / Layer 3: leaves. -/
import Derived.Test.YtopbdiekfhikmaaE4
namespace Go.Proofs.Ytopbdiekfhikmaa
open Go.RowKit
def an12 (i : Int) : Nat := ((i % 4294967296) / 4096 * 4096).toNat
theorem an12_cast (i : Int) : ((an12 i : Nat) : Int) = bits .andNot .u32 (i % 4294967296) 4095 := by
  obtain ⟨b, hb⟩ : ∃ b : Nat, i % 4294967296 = b := ⟨(i % 4294967296).toNat, by omega⟩
  have hb2 : b < 4294967296 := by omega
  unfold an12
  rw [hb]
  clear hb
  show _ = IntKind.u32.wrap ((BitVec.ofInt 32 (b : Int) &&& ~~~BitVec.ofInt 32 4095).toNat : Int)
  have e1 : ((b : Int) % (2 ^ 32 : Nat)).toNat = b := by omega
  have e2 : 2 ^ 32 - 1 - ((4095 : Int) % (2 ^ 32 : Nat)).toNat = (2 ^ 20 - 1) <<< 12 := by decide
  rw [BitVec.toNat_and, BitVec.toNat_not, bv_toNat, bv_toNat, e1, e2, nat_and_high 12 20 b (by omega)]
  unfold IntKind.wrap
  simp [IntKind.signed, IntKind.bits]
  omega
theorem shl12 (a : Nat) (w : World) : (binOp .shl 22 (.int .u32 (a : Int)) (.int .u64 12)).run Try.prog w = .ok (.int .u32 ((a * 4096 % 4294967296 : Nat) : Int)) w := by
  have h : (binOp .shl 22 (.int .u32 (a : Int)) (.int .u64 12)).run Try.prog w = .ok (.int .u32 (IntKind.u32.wrap ((a : Int) * 4096))) w := by kernel_rfl
  rw [h]
  simp [IntKind.wrap, IntKind.signed, IntKind.bits]
theorem shl14 (a : Nat) (w : World) : (binOp .shl 22 (.int .u32 (a : Int)) (.int .u64 14)).run Try.prog w = .ok (.int .u32 ((a * 16384 % 4294967296 : Nat) : Int)) w := by
  have h : (binOp .shl 22 (.int .u32 (a : Int)) (.int .u64 14)).run Try.prog w = .ok (.int .u32 (IntKind.u32.wrap ((a : Int) * 16384))) w := by kernel_rfl
  rw [h]
  simp [IntKind.wrap, IntKind.signed, IntKind.bits]
def brL : List Int := [5, 6, 0, 0, 7, 8, 9, 10]
def atL : List Int := [41, 40, 38, 39, 42, 0, 0, 0, 44, 0, 0, 0, 43, 0, 0, 0, 45, 0, 0, 0, 46, 0, 0, 0, 47, 0, 0, 0, 48, 0, 0, 0]
def formN (k rd r1 r2 r3 rm c sz i : Int) (ui us wd : Bool) : Nat × Bool :=
  if k = 1 then (or32 (or32 (55) (putN rd 7 5)) (an12 i), true)
  else if k = 2 then (or32 (or32 (23) (putN rd 7 5)) (an12 i), true)
  else if k = 3 then (or32 (or32 (or32 (or32 (or32 (111) (putN rd 7 5)) (putN (i / 2) 21 10)) (putN (i / 2048) 20 1)) (putN (i / 4096) 12 8)) (putN (i / 1048576) 31 1), true)
  else if k = 4 then (or32 (103) (iN rd r1 i), true)
  else if k = 11 then (or32 (or32 (or32 (3) (logN sz * 4096 % 4294967296)) (us.toNat * 16384 % 4294967296)) (iN rd r1 i), true)
  else if k = 12 then (or32 (or32 (35) (logN sz * 4096 % 4294967296)) (sN r1 r2 i), true)
  else if k = 53 then (or32 (or32 (7) (logN sz * 4096 % 4294967296)) (iN rd r1 i), true)
  else if k = 54 then (or32 (or32 (39) (logN sz * 4096 % 4294967296)) (sN r1 r2 i), true)
  else if k = 31 then (15, true)
  else if k = 32 then (4111, true)
  else if k = 33 then (115, true)
  else if k = 34 then (1048691, true)
  else if k = 50 then (270532723, true)
  else if k = 49 then (807403635, true)
  else if k = 51 then (273678451, true)
  else if k = 52 then (or32 (301990003) (rN rd r1 r2), true)
  else if k = 35 then (if ui = true then (or32 (or32 (or32 (or32 (115) (20480)) (putN rd 7 5)) (putN i 15 5)) (putN c 20 12), true) else (or32 (or32 (or32 (or32 (115) (4096)) (putN rd 7 5)) (putN r1 15 5)) (putN c 20 12), true))
  else if k = 36 then (if ui = true then (or32 (or32 (or32 (or32 (115) (24576)) (putN rd 7 5)) (putN i 15 5)) (putN c 20 12), true) else (or32 (or32 (or32 (or32 (115) (8192)) (putN rd 7 5)) (putN r1 15 5)) (putN c 20 12), true))
  else if k = 37 then (if ui = true then (or32 (or32 (or32 (or32 (115) (28672)) (putN rd 7 5)) (putN i 15 5)) (putN c 20 12), true) else (or32 (or32 (or32 (or32 (115) (12288)) (putN rd 7 5)) (putN r1 15 5)) (putN c 20 12), true))
  else if k = 5 then (or32 (or32 (or32 (or32 (or32 (or32 (or32 (99) (0)) (putN r1 15 5)) (putN r2 20 5)) (putN (i / 2) 8 4)) (putN (i / 32) 25 6)) (putN (i / 2048) 7 1)) (putN (i / 4096) 31 1), true)
  else if k = 6 then (or32 (or32 (or32 (or32 (or32 (or32 (or32 (99) (4096)) (putN r1 15 5)) (putN r2 20 5)) (putN (i / 2) 8 4)) (putN (i / 32) 25 6)) (putN (i / 2048) 7 1)) (putN (i / 4096) 31 1), true)
  else if k = 7 then (or32 (or32 (or32 (or32 (or32 (or32 (or32 (99) (16384)) (putN r1 15 5)) (putN r2 20 5)) (putN (i / 2) 8 4)) (putN (i / 32) 25 6)) (putN (i / 2048) 7 1)) (putN (i / 4096) 31 1), true)
  else if k = 8 then (or32 (or32 (or32 (or32 (or32 (or32 (or32 (99) (20480)) (putN r1 15 5)) (putN r2 20 5)) (putN (i / 2) 8 4)) (putN (i / 32) 25 6)) (putN (i / 2048) 7 1)) (putN (i / 4096) 31 1), true)
  else if k = 9 then (or32 (or32 (or32 (or32 (or32 (or32 (or32 (99) (24576)) (putN r1 15 5)) (putN r2 20 5)) (putN (i / 2) 8 4)) (putN (i / 32) 25 6)) (putN (i / 2048) 7 1)) (putN (i / 4096) 31 1), true)
  else if k = 10 then (or32 (or32 (or32 (or32 (or32 (or32 (or32 (99) (28672)) (putN r1 15 5)) (putN r2 20 5)) (putN (i / 2) 8 4)) (putN (i / 32) 25 6)) (putN (i / 2048) 7 1)) (putN (i / 4096) 31 1), true)
  else if k = 38 then (or32 (or32 (or32 (47) (logN sz * 4096 % 4294967296)) (268435456)) (rN rd r1 r2), true)
  else if k = 39 then (or32 (or32 (or32 (47) (logN sz * 4096 % 4294967296)) (402653184)) (rN rd r1 r2), true)
  else if k = 40 then (or32 (or32 (or32 (47) (logN sz * 4096 % 4294967296)) (134217728)) (rN rd r1 r2), true)
  else if k = 41 then (or32 (or32 (or32 (47) (logN sz * 4096 % 4294967296)) (0)) (rN rd r1 r2), true)
  else if k = 42 then (or32 (or32 (or32 (47) (logN sz * 4096 % 4294967296)) (536870912)) (rN rd r1 r2), true)
  else if k = 43 then (or32 (or32 (or32 (47) (logN sz * 4096 % 4294967296)) (1610612736)) (rN rd r1 r2), true)
  else if k = 44 then (or32 (or32 (or32 (47) (logN sz * 4096 % 4294967296)) (1073741824)) (rN rd r1 r2), true)
  else if k = 45 then (or32 (or32 (or32 (47) (logN sz * 4096 % 4294967296)) (2147483648)) (rN rd r1 r2), true)
  else if k = 46 then (or32 (or32 (or32 (47) (logN sz * 4096 % 4294967296)) (2684354560)) (rN rd r1 r2), true)
  else if k = 47 then (or32 (or32 (or32 (47) (logN sz * 4096 % 4294967296)) (3221225472)) (rN rd r1 r2), true)
  else if k = 48 then (or32 (or32 (or32 (47) (logN sz * 4096 % 4294967296)) (3758096384)) (rN rd r1 r2), true)
  else if (sumN k rd r1 r2 i ui wd).2 = true then ((sumN k rd r1 r2 i ui wd).1, true)
  else floN k rd r1 r2 r3 rm sz us wd
theorem branches_ab (w : World) : Calls Try.prog 21 #[] w fun e w' => ∃ A : Array Value, Hid (A = (brL.map fun v => Value.int .i64 v).toArray) ∧ e = .returned (.agg A) ∧ ∃ o, w' = w.alloc o :=
  (branches_any w).mono fun _ _ ⟨h1, h2⟩ => ⟨_, rfl, h1, h2⟩
theorem atomics_ab (w : World) : Calls Try.prog 38 #[] w fun e w' => ∃ A : Array Value, Hid (A = (atL.map fun v => Value.int .i64 v).toArray) ∧ e = .returned (.agg A) ∧ ∃ o, w' = w.alloc o :=
  (atomics_any w).mono fun _ _ ⟨h1, h2⟩ => ⟨_, rfl, h1, h2⟩
theorem info38 {B : Array Value} (h : Hid (B = (brL.map fun v => Value.int .i64 v).toArray)) : (Try.prog.info? 38).map (·.size) = some B.size ∧ (#[.int .i64 0, .int .i64 0, .int .i64 0, .int .i64 0, .int .i64 0, .int .i64 0, .int .i64 0, .int .i64 0] : Array Value).size = B.size ∧ B.all (·.oneCell') = true := by
  rw [unhide h]
  exact ⟨by kernel_rfl, rfl, by kernel_rfl⟩
theorem info52 {B : Array Value} (h : Hid (B = (atL.map fun v => Value.int .i64 v).toArray)) : (Try.prog.info? 52).map (·.size) = some B.size ∧ (#[.int .i64 0, .int .i64 0, .int .i64 0, .int .i64 0, .int .i64 0, .int .i64 0, .int .i64 0, .int .i64 0, .int .i64 0, .int .i64 0, .int .i64 0, .int .i64 0, .int .i64 0, .int .i64 0, .int .i64 0, .int .i64 0, .int .i64 0, .int .i64 0, .int .i64 0, .int .i64 0, .int .i64 0, .int .i64 0, .int .i64 0, .int .i64 0, .int .i64 0, .int .i64 0, .int .i64 0, .int .i64 0, .int .i64 0, .int .i64 0, .int .i64 0, .int .i64 0] : Array Value).size = B.size ∧ B.all (·.oneCell') = true := by
  rw [unhide h]
  exact ⟨by kernel_rfl, rfl, by kernel_rfl⟩
theorem wpL_store_row {P : Program} {ops : Array Oper} {rest : List Oper} {op : Oper} {a : Act} {w : World} {Q : Exit → Act → World → Prop} (hgd : op.guard = none) (ty : TypeId) (x y : Operand) (ho : op.op = .store ty x y)
    (g : Nat) (cells : Array Value) (hx : a.eval x = .pointer (some ⟨g, 0, none⟩)) (hy : a.eval y = .agg cells) (t : TypeId) (old : Array Value) (hg : w.heap[g]? = some (.cells old t (0, 0)))
    (hi : (P.info? ty).map (·.size) = some cells.size) (hold : old.size = cells.size) (h1 : cells.all (·.oneCell') = true)
    (h : wpList P ops Q rest (a.put op.dst undef) (w.setRow g cells)) : wpList P ops Q (op :: rest) a w :=
  wpList_plain hgd fun _ hK => wp_store_row ty x y ho g cells hx hy t old hg hi hold h1 (hK _ _ h)
theorem cutF {w W0 : World} {c : Code} {Q : Exit → Act → World → Prop} {a : Act} {g5 g6 : Nat} {x y z : Array Value} (hg : GN w W0) (hx : W0.heap[w.heap.size]? = some (.cells x 25 (0, 0))) (h5 : W0.heap[g5]? = some (.cells y 38 (0, 0))) (h6 : W0.heap[g6]? = some (.cells z 52 (0, 0)))
    (k : ∀ W, GN w W → W.heap[w.heap.size]? = some (.cells x 25 (0, 0)) → W.heap[g5]? = some (.cells y 38 (0, 0)) → W.heap[g6]? = some (.cells z 52 (0, 0)) → Code.wp Try.prog c Q a W) : Code.wp Try.prog c Q a W0 := k W0 hg hx h5 h6
theorem form_blocks (w : World) (X Z8 Z32 B A : Array Value) (o1 o2 : Obj) :
    GN w (((((((w.alloc (.cells X 25)).alloc o1).alloc o2).alloc (.cells Z8 38)).alloc (.cells Z32 52)).setRow (w.heap.size + 1 + 1 + 1) B).setRow (w.heap.size + 1 + 1 + 1 + 1) A) ∧
    (((((((w.alloc (.cells X 25)).alloc o1).alloc o2).alloc (.cells Z8 38)).alloc (.cells Z32 52)).setRow (w.heap.size + 1 + 1 + 1) B).setRow (w.heap.size + 1 + 1 + 1 + 1) A).heap[w.heap.size]? = some (.cells X 25 (0, 0)) ∧
    (((((((w.alloc (.cells X 25)).alloc o1).alloc o2).alloc (.cells Z8 38)).alloc (.cells Z32 52)).setRow (w.heap.size + 1 + 1 + 1) B).setRow (w.heap.size + 1 + 1 + 1 + 1) A).heap[w.heap.size + 1 + 1 + 1]? = some (.cells B 38 (0, 0)) ∧
    (((((((w.alloc (.cells X 25)).alloc o1).alloc o2).alloc (.cells Z8 38)).alloc (.cells Z32 52)).setRow (w.heap.size + 1 + 1 + 1) B).setRow (w.heap.size + 1 + 1 + 1 + 1) A).heap[w.heap.size + 1 + 1 + 1 + 1]? = some (.cells A 52 (0, 0)) :=
  ⟨GN.setRow (GN.setRow ((((((GN.refl w).alloc _).alloc _).alloc _).alloc _).alloc _) (by omega) _) (by omega) _,
   row_ne (by omega) (row_ne (by omega) (hp_alloc (hp_alloc (hp_alloc (hp_alloc (hp_last rfl)))))),
   row_ne (by omega) (row_self (hp_alloc (hp_last (by simp)))), row_self (row_ne (by omega) (hp_last (by simp)))⟩
theorem form_start {w : World} {X Z8 Z32 B A : Array Value} {o1 o2 : Obj} {c : Code} {Q : Exit → Act → World → Prop} {a : Act}
    (k : ∀ W, GN w W → W.heap[w.heap.size]? = some (.cells X 25 (0, 0)) → W.heap[w.heap.size + 1 + 1 + 1]? = some (.cells B 38 (0, 0)) → W.heap[w.heap.size + 1 + 1 + 1 + 1]? = some (.cells A 52 (0, 0)) → Code.wp Try.prog c Q a W) :
    Code.wp Try.prog c Q a (((((((w.alloc (.cells X 25)).alloc o1).alloc o2).alloc (.cells Z8 38)).alloc (.cells Z32 52)).setRow (w.heap.size + 1 + 1 + 1) B).setRow (w.heap.size + 1 + 1 + 1 + 1) A) :=
  have h := form_blocks w X Z8 Z32 B A o1 o2
  k _ h.1 h.2.1 h.2.2.1 h.2.2.2
end Go.Proofs.Ytopbdiekfhikmaa
namespace Go.Proofs.Ytopbdiekfhikmaa
open Go.RowKit
set_option maxRecDepth 100000 in
set_option maxHeartbeats 4000000 in
theorem form_1 (rd r1 r2 r3 rm c sz i : Int) (hi : (Lit.int .i64 i).wf = true) (_hz : (Lit.int .i64 sz).wf = true) (ui : Bool) (us wd : Bool) (w : World) : Calls Try.prog 33 #[.agg #[.int .i64 1, .int .i64 rd, .int .i64 r1, .int .i64 r2, .int .i64 r3, .int .i64 rm, .int .i64 c, .int .i64 sz, .int .i64 i, .bool ui, .bool us, .bool wd]] w fun e w' => e = .returned (.tuple #[.int .u32 ((or32 (or32 (55) (putN rd 7 5)) (an12 i) : Nat) : Int), .bool true]) ∧ GN w w' := by
  obtain ⟨z, hz⟩ : ∃ z : Int, z = ((or32 (or32 (55) (putN rd 7 5)) (an12 i) : Nat) : Int) := ⟨_, rfl⟩
  rw [← hz]
  simp only [or32_cast, an12_cast, Int.cast_ofNat_Int] at hz
  have Hz := hide hz
  clear hz
  have hi2 := i64' hi
  go_enter Try.func33, Try.ntmps33
  go_upto_region 2 with (first | (go_at_call 21; refine (branches_ab _).mono ?_; rintro _ _ ⟨B, hB, rfl, o_, rfl⟩) | (go_at_call 38; refine (atomics_ab _).mono ?_; rintro _ _ ⟨A, hA, rfl, o_, rfl⟩) | (refine wpL_store_row rfl 38 (.tmp 4) (.tmp 12) rfl _ B rfl rfl 38 #[.int .i64 0, .int .i64 0, .int .i64 0, .int .i64 0, .int .i64 0, .int .i64 0, .int .i64 0, .int .i64 0] ?_ (info38 hB).1 (info38 hB).2.1 (info38 hB).2.2 ?_; · exact hp_alloc (hp_last (by simp))) | (refine wpL_store_row rfl 52 (.tmp 5) (.tmp 13) rfl _ A rfl rfl 52 #[.int .i64 0, .int .i64 0, .int .i64 0, .int .i64 0, .int .i64 0, .int .i64 0, .int .i64 0, .int .i64 0, .int .i64 0, .int .i64 0, .int .i64 0, .int .i64 0, .int .i64 0, .int .i64 0, .int .i64 0, .int .i64 0, .int .i64 0, .int .i64 0, .int .i64 0, .int .i64 0, .int .i64 0, .int .i64 0, .int .i64 0, .int .i64 0, .int .i64 0, .int .i64 0, .int .i64 0, .int .i64 0, .int .i64 0, .int .i64 0, .int .i64 0, .int .i64 0] ?_ (info52 hA).1 (info52 hA).2.1 (info52 hA).2.2 ?_; · exact row_ne (by omega) (hp_last (by simp))))
  with_reducible refine form_start fun W hgW hx h5 h6 => ?_
  generalize hg5 : w.heap.size + 1 + 1 + 1 = g5 at *
  generalize hg6 : g5 + 1 = g6 at *
  clear hg5 hg6
  have W1 := lt_of_heap' hx
  have W2 := lt_of_heap' h5
  have W3 := lt_of_heap' h6
  obtain ⟨⟨p0, q0⟩, ⟨p1, q1⟩, ⟨p2, q2⟩, ⟨p3, q3⟩, ⟨p4, q4⟩, ⟨p5, q5⟩, ⟨p6, q6⟩, ⟨p7, q7⟩, ⟨p8, q8⟩, ⟨p9, q9⟩, ⟨p10, q10⟩, ⟨p11, q11⟩⟩ := c12 hx
  go_upto_region 4 with fail
  go_quiet ((go_at_call 46; exact Calls.quiet_of (put_any _ _ _ (by decide) (by decide) _)))
  go_wp2
  go_ret2
  exact ⟨by rw [unhide Hz]; rfl, gnt⟩
set_option maxRecDepth 100000 in
set_option maxHeartbeats 4000000 in
theorem form_11 (rd r1 r2 r3 rm c sz i : Int) (hi : (Lit.int .i64 i).wf = true) (hz : (Lit.int .i64 sz).wf = true) (ui : Bool) (us wd : Bool) (w : World) : Calls Try.prog 33 #[.agg #[.int .i64 11, .int .i64 rd, .int .i64 r1, .int .i64 r2, .int .i64 r3, .int .i64 rm, .int .i64 c, .int .i64 sz, .int .i64 i, .bool ui, .bool us, .bool wd]] w fun e w' => e = .returned (.tuple #[.int .u32 ((or32 (or32 (or32 (3) (logN sz * 4096 % 4294967296)) (us.toNat * 16384 % 4294967296)) (iN rd r1 i) : Nat) : Int), .bool true]) ∧ GN w w' := by
  obtain ⟨hs1, hs2⟩ := i64' hz
  go_enter Try.func33, Try.ntmps33
  go_upto_region 2 with (first | (go_at_call 21; refine (branches_ab _).mono ?_; rintro _ _ ⟨B, hB, rfl, o_, rfl⟩) | (go_at_call 38; refine (atomics_ab _).mono ?_; rintro _ _ ⟨A, hA, rfl, o_, rfl⟩) | (refine wpL_store_row rfl 38 (.tmp 4) (.tmp 12) rfl _ B rfl rfl 38 #[.int .i64 0, .int .i64 0, .int .i64 0, .int .i64 0, .int .i64 0, .int .i64 0, .int .i64 0, .int .i64 0] ?_ (info38 hB).1 (info38 hB).2.1 (info38 hB).2.2 ?_; · exact hp_alloc (hp_last (by simp))) | (refine wpL_store_row rfl 52 (.tmp 5) (.tmp 13) rfl _ A rfl rfl 52 #[.int .i64 0, .int .i64 0, .int .i64 0, .int .i64 0, .int .i64 0, .int .i64 0, .int .i64 0, .int .i64 0, .int .i64 0, .int .i64 0, .int .i64 0, .int .i64 0, .int .i64 0, .int .i64 0, .int .i64 0, .int .i64 0, .int .i64 0, .int .i64 0, .int .i64 0, .int .i64 0, .int .i64 0, .int .i64 0, .int .i64 0, .int .i64 0, .int .i64 0, .int .i64 0, .int .i64 0, .int .i64 0, .int .i64 0, .int .i64 0, .int .i64 0, .int .i64 0] ?_ (info52 hA).1 (info52 hA).2.1 (info52 hA).2.2 ?_; · exact row_ne (by omega) (hp_last (by simp))))
  with_reducible refine form_start fun W hgW hx h5 h6 => ?_
  generalize hg5 : w.heap.size + 1 + 1 + 1 = g5 at *
  generalize hg6 : g5 + 1 = g6 at *
  clear hg5 hg6
  have W1 := lt_of_heap' hx
  have W2 := lt_of_heap' h5
  have W3 := lt_of_heap' h6
  obtain ⟨⟨p0, q0⟩, ⟨p1, q1⟩, ⟨p2, q2⟩, ⟨p3, q3⟩, ⟨p4, q4⟩, ⟨p5, q5⟩, ⟨p6, q6⟩, ⟨p7, q7⟩, ⟨p8, q8⟩, ⟨p9, q9⟩, ⟨p10, q10⟩, ⟨p11, q11⟩⟩ := c12 hx
  go_upto_region 12 with fail
  clear p0 q0 p1 q1 p2 q2 p3 q3 p4 q4 p5 q5 p6 q6 p7 q7 p8 q8 p9 q9 p10 q10 p11 q11
  refine wp_region_F (fun w_ => GN W w_) GN (fun k_ v_ w_ => match k_ with
      | 0 => v_ = .pointer (some ⟨w.heap.size, 7, none⟩)
      | 1 => v_ = .int .i64 sz
      | 2 => v_ = .int .u32 ((logN sz : Nat) : Int)
      | 3 => v_ = .int .u32 ((logN sz * 4096 % 4294967296 : Nat) : Int)
      | 4 => v_ = .int .u32 ((or32 (3) (logN sz * 4096 % 4294967296) : Nat) : Int)
      | 5 => v_ = .pointer (some ⟨w.heap.size, 10, none⟩)
      | 6 => v_ = .bool us
      | 7 => v_ = .int .u32 ((us.toNat : Nat) : Int)
      | 8 => v_ = .int .u32 ((us.toNat * 16384 % 4294967296 : Nat) : Int)
      | 9 => v_ = .int .u32 ((or32 (or32 (3) (logN sz * 4096 % 4294967296)) (us.toNat * 16384 % 4294967296) : Nat) : Int)
      | 10 => v_ = .agg #[.int .i64 11, .int .i64 rd, .int .i64 r1, .int .i64 r2, .int .i64 r3, .int .i64 rm, .int .i64 c, .int .i64 sz, .int .i64 i, .bool ui, .bool us, .bool wd]
      | 11 => v_ = .int .u32 ((iN rd r1 i : Nat) : Int)
      | 12 => v_ = .int .u32 ((or32 (or32 (or32 (3) (logN sz * 4096 % 4294967296)) (us.toNat * 16384 % 4294967296)) (iN rd r1 i) : Nat) : Int)
      | 13 => v_ = .int .u32 ((or32 (or32 (or32 (3) (logN sz * 4096 % 4294967296)) (us.toNat * 16384 % 4294967296)) (iN rd r1 i) : Nat) : Int)
      | _ => v_ = .bool true) fol (by kernel_rfl) ?_ ?_ ?_ ?_
  · exact (GN.refl W).drew
  · intro k_ v_ w_ w2_ h1 hg
    split at h1 <;> exact h1
  · intro vals
    show wpG _ _ _ _ _ _ 0 (_ :: _) _
    refine wpG_cons (gval (.pointer (some ⟨w.heap.size, 7, none⟩)) GN.refl fun w_ hJ hd => ?_) ?_
    · exact ⟨by kernel_rfl, by kernel_rfl, rfl⟩
    refine wpG_cons (gop (Instr.loadAt 3 (.pointer (some ⟨w.heap.size, 7, none⟩))) (.int .i64 sz) GN.refl fun w_ hJ hd => ?_) ?_
    · have e0 : vals 0 = _ := hd 0 (by decide) (by kernel_rfl)
      rw [e0]
      exact ⟨by kernel_rfl, by kernel_rfl, run_load1 (by kernel_rfl) (c12 (GN.heap hJ hx)).2.2.2.2.2.2.2.1.1, rfl⟩
    refine wpG_cons (gcall 48 #[.int .i64 sz] fun w_ hJ hd => ?_) ?_
    · have e1 : vals 1 = _ := hd 1 (by decide) (by kernel_rfl)
      rw [e1]
      exact ⟨by kernel_rfl, by kernel_rfl, (log_any sz hs1 hs2 w_).mono fun e w2 ⟨he, m, hw⟩ => ⟨_, he, by subst hw; exact hJ.drewN _, by subst hw; exact (GN.refl w_).drewN _, rfl⟩⟩
    refine wpG_cons (gop (binOp .shl 22 (.int .u32 ((logN sz : Nat) : Int)) (.int .u64 12)) (.int .u32 ((logN sz * 4096 % 4294967296 : Nat) : Int)) GN.refl fun w_ hJ hd => ?_) ?_
    · have e2 : vals 2 = _ := hd 2 (by decide) (by kernel_rfl)
      rw [e2]
      exact ⟨by kernel_rfl, by kernel_rfl, shl12 (logN sz) w_, rfl⟩
    refine wpG_cons (gop (binOp .or 22 (.int .u32 3) (.int .u32 ((logN sz * 4096 % 4294967296 : Nat) : Int))) (.int .u32 ((or32 (3) (logN sz * 4096 % 4294967296) : Nat) : Int)) GN.refl fun w_ hJ hd => ?_) ?_
    · have e3 : vals 3 = _ := hd 3 (by decide) (by kernel_rfl)
      rw [e3]
      exact ⟨by kernel_rfl, by kernel_rfl, or_run 3 (logN sz * 4096 % 4294967296) w_, rfl⟩
    refine wpG_cons (gval (.pointer (some ⟨w.heap.size, 10, none⟩)) GN.refl fun w_ hJ hd => ?_) ?_
    · exact ⟨by kernel_rfl, by kernel_rfl, rfl⟩
    refine wpG_cons (gop (Instr.loadAt 4 (.pointer (some ⟨w.heap.size, 10, none⟩))) (.bool us) GN.refl fun w_ hJ hd => ?_) ?_
    · have e5 : vals 5 = _ := hd 5 (by decide) (by kernel_rfl)
      rw [e5]
      exact ⟨by kernel_rfl, by kernel_rfl, run_load1 (by kernel_rfl) (c12 (GN.heap hJ hx)).2.2.2.2.2.2.2.2.2.2.1.1, rfl⟩
    refine wpG_cons (gcall 49 #[.bool us] fun w_ hJ hd => ?_) ?_
    · have e6 : vals 6 = _ := hd 6 (by decide) (by kernel_rfl)
      rw [e6]
      exact ⟨by kernel_rfl, by kernel_rfl, (mark_any us w_).mono fun e w2 ⟨he, m, hw⟩ => ⟨_, he, by subst hw; exact hJ.drewN _, by subst hw; exact (GN.refl w_).drewN _, rfl⟩⟩
    refine wpG_cons (gop (binOp .shl 22 (.int .u32 ((us.toNat : Nat) : Int)) (.int .u64 14)) (.int .u32 ((us.toNat * 16384 % 4294967296 : Nat) : Int)) GN.refl fun w_ hJ hd => ?_) ?_
    · have e7 : vals 7 = _ := hd 7 (by decide) (by kernel_rfl)
      rw [e7]
      exact ⟨by kernel_rfl, by kernel_rfl, shl14 us.toNat w_, rfl⟩
    refine wpG_cons (gop (binOp .or 22 (.int .u32 ((or32 (3) (logN sz * 4096 % 4294967296) : Nat) : Int)) (.int .u32 ((us.toNat * 16384 % 4294967296 : Nat) : Int))) (.int .u32 ((or32 (or32 (3) (logN sz * 4096 % 4294967296)) (us.toNat * 16384 % 4294967296) : Nat) : Int)) GN.refl fun w_ hJ hd => ?_) ?_
    · have e4 : vals 4 = _ := hd 4 (by decide) (by kernel_rfl)
      have e8 : vals 8 = _ := hd 8 (by decide) (by kernel_rfl)
      rw [e4, e8]
      exact ⟨by kernel_rfl, by kernel_rfl, or_run _ _ w_, rfl⟩
    refine wpG_cons (gop (Instr.loadAt 25 (.pointer (some ⟨w.heap.size, 0, none⟩))) (.agg #[.int .i64 11, .int .i64 rd, .int .i64 r1, .int .i64 r2, .int .i64 r3, .int .i64 rm, .int .i64 c, .int .i64 sz, .int .i64 i, .bool ui, .bool us, .bool wd]) GN.refl fun w_ hJ hd => ?_) ?_
    · exact ⟨by kernel_rfl, by kernel_rfl, run_loadRow (GN.heap hJ hx), rfl⟩
    refine wpG_cons (gcall 47 #[.agg #[.int .i64 11, .int .i64 rd, .int .i64 r1, .int .i64 r2, .int .i64 r3, .int .i64 rm, .int .i64 c, .int .i64 sz, .int .i64 i, .bool ui, .bool us, .bool wd]] fun w_ hJ hd => ?_) ?_
    · have e10 : vals 10 = _ := hd 10 (by decide) (by kernel_rfl)
      rw [e10]
      exact ⟨by kernel_rfl, by kernel_rfl, (i_any _ _ _ _ _ _ _ _ _ hi _ _ _ w_).mono fun e w2 ⟨he, hq⟩ => ⟨_, he, GN.trans hJ hq, hq, rfl⟩⟩
    refine wpG_cons (gop (binOp .or 22 (.int .u32 ((or32 (or32 (3) (logN sz * 4096 % 4294967296)) (us.toNat * 16384 % 4294967296) : Nat) : Int)) (.int .u32 ((iN rd r1 i : Nat) : Int))) (.int .u32 ((or32 (or32 (or32 (3) (logN sz * 4096 % 4294967296)) (us.toNat * 16384 % 4294967296)) (iN rd r1 i) : Nat) : Int)) GN.refl fun w_ hJ hd => ?_) ?_
    · have e9 : vals 9 = _ := hd 9 (by decide) (by kernel_rfl)
      have e11 : vals 11 = _ := hd 11 (by decide) (by kernel_rfl)
      rw [e9, e11]
      exact ⟨by kernel_rfl, by kernel_rfl, or_run _ _ w_, rfl⟩
    refine wpG_cons (gval (.int .u32 ((or32 (or32 (or32 (3) (logN sz * 4096 % 4294967296)) (us.toNat * 16384 % 4294967296)) (iN rd r1 i) : Nat) : Int)) GN.refl fun w_ hJ hd => ?_) ?_
    · have e12 : vals 12 = _ := hd 12 (by decide) (by kernel_rfl)
      rw [e12]
      exact ⟨by kernel_rfl, by kernel_rfl, rfl⟩
    refine wpG_cons (gval (.bool true) GN.refl fun w_ hJ hd => ?_) wpG_nil
    · exact ⟨by kernel_rfl, by kernel_rfl, rfl⟩
  intro vals w_ hJ hf
  have e0 : vals 0 = _ := hf 0 (by decide)
  have e1 : vals 1 = _ := hf 1 (by decide)
  have e2 : vals 2 = _ := hf 2 (by decide)
  have e3 : vals 3 = _ := hf 3 (by decide)
  have e4 : vals 4 = _ := hf 4 (by decide)
  have e5 : vals 5 = _ := hf 5 (by decide)
  have e6 : vals 6 = _ := hf 6 (by decide)
  have e7 : vals 7 = _ := hf 7 (by decide)
  have e8 : vals 8 = _ := hf 8 (by decide)
  have e9 : vals 9 = _ := hf 9 (by decide)
  have e10 : vals 10 = _ := hf 10 (by decide)
  have e11 : vals 11 = _ := hf 11 (by decide)
  have e12 : vals 12 = _ := hf 12 (by decide)
  have e13 : vals 13 = _ := hf 13 (by decide)
  have e14 : vals 14 = _ := hf 14 (by decide)
  simp only [fillG, Nat.zero_add, Nat.reduceAdd, e0, e1, e2, e3, e4, e5, e6, e7, e8, e9, e10, e11, e12, e13, e14, Act.put, List.setIfInBounds_toArray, List.set_cons_succ, List.set_cons_zero]
  clear e0 e1 e2 e3 e4 e5 e6 e7 e8 e9 e10 e11 e12 e13 e14 hf
  have hgn := GN.trans hgW hJ
  go_wp2
  go_ret2
  exact ⟨rfl, gnt⟩
set_option maxRecDepth 100000 in
set_option maxHeartbeats 4000000 in
theorem form_31 (rd r1 r2 r3 rm c sz i : Int) (_hi : (Lit.int .i64 i).wf = true) (_hz : (Lit.int .i64 sz).wf = true) (ui : Bool) (us wd : Bool) (w : World) : Calls Try.prog 33 #[.agg #[.int .i64 31, .int .i64 rd, .int .i64 r1, .int .i64 r2, .int .i64 r3, .int .i64 rm, .int .i64 c, .int .i64 sz, .int .i64 i, .bool ui, .bool us, .bool wd]] w fun e w' => e = .returned (.tuple #[.int .u32 ((15 : Nat) : Int), .bool true]) ∧ GN w w' := by
  obtain ⟨z, hz⟩ : ∃ z : Int, z = ((15 : Nat) : Int) := ⟨_, rfl⟩
  rw [← hz]
  simp only [Int.cast_ofNat_Int] at hz
  have Hz := hide hz
  clear hz
  go_enter Try.func33, Try.ntmps33
  go_upto_region 2 with (first | (go_at_call 21; refine (branches_ab _).mono ?_; rintro _ _ ⟨B, hB, rfl, o_, rfl⟩) | (go_at_call 38; refine (atomics_ab _).mono ?_; rintro _ _ ⟨A, hA, rfl, o_, rfl⟩) | (refine wpL_store_row rfl 38 (.tmp 4) (.tmp 12) rfl _ B rfl rfl 38 #[.int .i64 0, .int .i64 0, .int .i64 0, .int .i64 0, .int .i64 0, .int .i64 0, .int .i64 0, .int .i64 0] ?_ (info38 hB).1 (info38 hB).2.1 (info38 hB).2.2 ?_; · exact hp_alloc (hp_last (by simp))) | (refine wpL_store_row rfl 52 (.tmp 5) (.tmp 13) rfl _ A rfl rfl 52 #[.int .i64 0, .int .i64 0, .int .i64 0, .int .i64 0, .int .i64 0, .int .i64 0, .int .i64 0, .int .i64 0, .int .i64 0, .int .i64 0, .int .i64 0, .int .i64 0, .int .i64 0, .int .i64 0, .int .i64 0, .int .i64 0, .int .i64 0, .int .i64 0, .int .i64 0, .int .i64 0, .int .i64 0, .int .i64 0, .int .i64 0, .int .i64 0, .int .i64 0, .int .i64 0, .int .i64 0, .int .i64 0, .int .i64 0, .int .i64 0, .int .i64 0, .int .i64 0] ?_ (info52 hA).1 (info52 hA).2.1 (info52 hA).2.2 ?_; · exact row_ne (by omega) (hp_last (by simp))))
  with_reducible refine form_start fun W hgW hx h5 h6 => ?_
  generalize hg5 : w.heap.size + 1 + 1 + 1 = g5 at *
  generalize hg6 : g5 + 1 = g6 at *
  clear hg5 hg6
  have W1 := lt_of_heap' hx
  have W2 := lt_of_heap' h5
  have W3 := lt_of_heap' h6
  obtain ⟨⟨p0, q0⟩, ⟨p1, q1⟩, ⟨p2, q2⟩, ⟨p3, q3⟩, ⟨p4, q4⟩, ⟨p5, q5⟩, ⟨p6, q6⟩, ⟨p7, q7⟩, ⟨p8, q8⟩, ⟨p9, q9⟩, ⟨p10, q10⟩, ⟨p11, q11⟩⟩ := c12 hx
  go_wp2
  go_ret2
  exact ⟨by rw [unhide Hz]; rfl, gnt⟩
set_option maxRecDepth 100000 in
set_option maxHeartbeats 4000000 in
theorem form_50 (rd r1 r2 r3 rm c sz i : Int) (_hi : (Lit.int .i64 i).wf = true) (_hz : (Lit.int .i64 sz).wf = true) (ui : Bool) (us wd : Bool) (w : World) : Calls Try.prog 33 #[.agg #[.int .i64 50, .int .i64 rd, .int .i64 r1, .int .i64 r2, .int .i64 r3, .int .i64 rm, .int .i64 c, .int .i64 sz, .int .i64 i, .bool ui, .bool us, .bool wd]] w fun e w' => e = .returned (.tuple #[.int .u32 ((270532723 : Nat) : Int), .bool true]) ∧ GN w w' := by
  obtain ⟨z, hz⟩ : ∃ z : Int, z = ((270532723 : Nat) : Int) := ⟨_, rfl⟩
  rw [← hz]
  simp only [Int.cast_ofNat_Int] at hz
  have Hz := hide hz
  clear hz
  go_enter Try.func33, Try.ntmps33
  go_upto_region 2 with (first | (go_at_call 21; refine (branches_ab _).mono ?_; rintro _ _ ⟨B, hB, rfl, o_, rfl⟩) | (go_at_call 38; refine (atomics_ab _).mono ?_; rintro _ _ ⟨A, hA, rfl, o_, rfl⟩) | (refine wpL_store_row rfl 38 (.tmp 4) (.tmp 12) rfl _ B rfl rfl 38 #[.int .i64 0, .int .i64 0, .int .i64 0, .int .i64 0, .int .i64 0, .int .i64 0, .int .i64 0, .int .i64 0] ?_ (info38 hB).1 (info38 hB).2.1 (info38 hB).2.2 ?_; · exact hp_alloc (hp_last (by simp))) | (refine wpL_store_row rfl 52 (.tmp 5) (.tmp 13) rfl _ A rfl rfl 52 #[.int .i64 0, .int .i64 0, .int .i64 0, .int .i64 0, .int .i64 0, .int .i64 0, .int .i64 0, .int .i64 0, .int .i64 0, .int .i64 0, .int .i64 0, .int .i64 0, .int .i64 0, .int .i64 0, .int .i64 0, .int .i64 0, .int .i64 0, .int .i64 0, .int .i64 0, .int .i64 0, .int .i64 0, .int .i64 0, .int .i64 0, .int .i64 0, .int .i64 0, .int .i64 0, .int .i64 0, .int .i64 0, .int .i64 0, .int .i64 0, .int .i64 0, .int .i64 0] ?_ (info52 hA).1 (info52 hA).2.1 (info52 hA).2.2 ?_; · exact row_ne (by omega) (hp_last (by simp))))
  with_reducible refine form_start fun W hgW hx h5 h6 => ?_
  generalize hg5 : w.heap.size + 1 + 1 + 1 = g5 at *
  generalize hg6 : g5 + 1 = g6 at *
  clear hg5 hg6
  have W1 := lt_of_heap' hx
  have W2 := lt_of_heap' h5
  have W3 := lt_of_heap' h6
  obtain ⟨⟨p0, q0⟩, ⟨p1, q1⟩, ⟨p2, q2⟩, ⟨p3, q3⟩, ⟨p4, q4⟩, ⟨p5, q5⟩, ⟨p6, q6⟩, ⟨p7, q7⟩, ⟨p8, q8⟩, ⟨p9, q9⟩, ⟨p10, q10⟩, ⟨p11, q11⟩⟩ := c12 hx
  go_wp2
  go_ret2
  exact ⟨by rw [unhide Hz]; rfl, gnt⟩
set_option maxRecDepth 100000 in
set_option maxHeartbeats 4000000 in
theorem form_35f (rd r1 r2 r3 rm c sz i : Int) (_hi : (Lit.int .i64 i).wf = true) (_hz : (Lit.int .i64 sz).wf = true) (us wd : Bool) (w : World) : Calls Try.prog 33 #[.agg #[.int .i64 35, .int .i64 rd, .int .i64 r1, .int .i64 r2, .int .i64 r3, .int .i64 rm, .int .i64 c, .int .i64 sz, .int .i64 i, .bool false, .bool us, .bool wd]] w fun e w' => e = .returned (.tuple #[.int .u32 ((or32 (or32 (or32 (or32 (115) (4096)) (putN rd 7 5)) (putN r1 15 5)) (putN c 20 12) : Nat) : Int), .bool true]) ∧ GN w w' := by
  obtain ⟨z, hz⟩ : ∃ z : Int, z = ((or32 (or32 (or32 (or32 (115) (4096)) (putN rd 7 5)) (putN r1 15 5)) (putN c 20 12) : Nat) : Int) := ⟨_, rfl⟩
  rw [← hz]
  simp only [or32_cast, Int.cast_ofNat_Int] at hz
  have Hz := hide hz
  clear hz
  go_enter Try.func33, Try.ntmps33
  go_upto_region 2 with (first | (go_at_call 21; refine (branches_ab _).mono ?_; rintro _ _ ⟨B, hB, rfl, o_, rfl⟩) | (go_at_call 38; refine (atomics_ab _).mono ?_; rintro _ _ ⟨A, hA, rfl, o_, rfl⟩) | (refine wpL_store_row rfl 38 (.tmp 4) (.tmp 12) rfl _ B rfl rfl 38 #[.int .i64 0, .int .i64 0, .int .i64 0, .int .i64 0, .int .i64 0, .int .i64 0, .int .i64 0, .int .i64 0] ?_ (info38 hB).1 (info38 hB).2.1 (info38 hB).2.2 ?_; · exact hp_alloc (hp_last (by simp))) | (refine wpL_store_row rfl 52 (.tmp 5) (.tmp 13) rfl _ A rfl rfl 52 #[.int .i64 0, .int .i64 0, .int .i64 0, .int .i64 0, .int .i64 0, .int .i64 0, .int .i64 0, .int .i64 0, .int .i64 0, .int .i64 0, .int .i64 0, .int .i64 0, .int .i64 0, .int .i64 0, .int .i64 0, .int .i64 0, .int .i64 0, .int .i64 0, .int .i64 0, .int .i64 0, .int .i64 0, .int .i64 0, .int .i64 0, .int .i64 0, .int .i64 0, .int .i64 0, .int .i64 0, .int .i64 0, .int .i64 0, .int .i64 0, .int .i64 0, .int .i64 0] ?_ (info52 hA).1 (info52 hA).2.1 (info52 hA).2.2 ?_; · exact row_ne (by omega) (hp_last (by simp))))
  with_reducible refine form_start fun W hgW hx h5 h6 => ?_
  generalize hg5 : w.heap.size + 1 + 1 + 1 = g5 at *
  generalize hg6 : g5 + 1 = g6 at *
  clear hg5 hg6
  have W1 := lt_of_heap' hx
  have W2 := lt_of_heap' h5
  have W3 := lt_of_heap' h6
  obtain ⟨⟨p0, q0⟩, ⟨p1, q1⟩, ⟨p2, q2⟩, ⟨p3, q3⟩, ⟨p4, q4⟩, ⟨p5, q5⟩, ⟨p6, q6⟩, ⟨p7, q7⟩, ⟨p8, q8⟩, ⟨p9, q9⟩, ⟨p10, q10⟩, ⟨p11, q11⟩⟩ := c12 hx
  go_upto_region 37 with fail
  go_quiet (fail)
  go_upto_region 40 with fail
  clear p0 q0 p1 q1 p2 q2 p3 q3 p4 q4 p5 q5 p6 q6 p7 q7 p8 q8 p9 q9 p10 q10 p11 q11 W1 W2 W3
  refine cutF (w := w) (g5 := g5) (g6 := g6) (GN.drewN hgW _) hx h5 h6 fun W4 hgWn hxn h5n h6n => ?_
  clear hgW hx h5 h6 
  have hgW := hgWn
  have hx := hxn
  have h5 := h5n
  have h6 := h6n
  clear hgWn hxn h5n h6n
  have W1 := lt_of_heap' hx
  have W2 := lt_of_heap' h5
  have W3 := lt_of_heap' h6
  obtain ⟨⟨p0, q0⟩, ⟨p1, q1⟩, ⟨p2, q2⟩, ⟨p3, q3⟩, ⟨p4, q4⟩, ⟨p5, q5⟩, ⟨p6, q6⟩, ⟨p7, q7⟩, ⟨p8, q8⟩, ⟨p9, q9⟩, ⟨p10, q10⟩, ⟨p11, q11⟩⟩ := c12 hx
  go_quiet ((go_at_call 46; exact Calls.quiet_of (put_any _ _ _ (by decide) (by decide) _)))
  go_wp2
  go_ret2
  exact ⟨by rw [unhide Hz]; rfl, gnt⟩
set_option maxRecDepth 100000 in
set_option maxHeartbeats 4000000 in
theorem form_37f (rd r1 r2 r3 rm c sz i : Int) (_hi : (Lit.int .i64 i).wf = true) (_hz : (Lit.int .i64 sz).wf = true) (us wd : Bool) (w : World) : Calls Try.prog 33 #[.agg #[.int .i64 37, .int .i64 rd, .int .i64 r1, .int .i64 r2, .int .i64 r3, .int .i64 rm, .int .i64 c, .int .i64 sz, .int .i64 i, .bool false, .bool us, .bool wd]] w fun e w' => e = .returned (.tuple #[.int .u32 ((or32 (or32 (or32 (or32 (115) (12288)) (putN rd 7 5)) (putN r1 15 5)) (putN c 20 12) : Nat) : Int), .bool true]) ∧ GN w w' := by
  obtain ⟨z, hz⟩ : ∃ z : Int, z = ((or32 (or32 (or32 (or32 (115) (12288)) (putN rd 7 5)) (putN r1 15 5)) (putN c 20 12) : Nat) : Int) := ⟨_, rfl⟩
  rw [← hz]
  simp only [or32_cast, Int.cast_ofNat_Int] at hz
  have Hz := hide hz
  clear hz
  go_enter Try.func33, Try.ntmps33
  go_upto_region 2 with (first | (go_at_call 21; refine (branches_ab _).mono ?_; rintro _ _ ⟨B, hB, rfl, o_, rfl⟩) | (go_at_call 38; refine (atomics_ab _).mono ?_; rintro _ _ ⟨A, hA, rfl, o_, rfl⟩) | (refine wpL_store_row rfl 38 (.tmp 4) (.tmp 12) rfl _ B rfl rfl 38 #[.int .i64 0, .int .i64 0, .int .i64 0, .int .i64 0, .int .i64 0, .int .i64 0, .int .i64 0, .int .i64 0] ?_ (info38 hB).1 (info38 hB).2.1 (info38 hB).2.2 ?_; · exact hp_alloc (hp_last (by simp))) | (refine wpL_store_row rfl 52 (.tmp 5) (.tmp 13) rfl _ A rfl rfl 52 #[.int .i64 0, .int .i64 0, .int .i64 0, .int .i64 0, .int .i64 0, .int .i64 0, .int .i64 0, .int .i64 0, .int .i64 0, .int .i64 0, .int .i64 0, .int .i64 0, .int .i64 0, .int .i64 0, .int .i64 0, .int .i64 0, .int .i64 0, .int .i64 0, .int .i64 0, .int .i64 0, .int .i64 0, .int .i64 0, .int .i64 0, .int .i64 0, .int .i64 0, .int .i64 0, .int .i64 0, .int .i64 0, .int .i64 0, .int .i64 0, .int .i64 0, .int .i64 0] ?_ (info52 hA).1 (info52 hA).2.1 (info52 hA).2.2 ?_; · exact row_ne (by omega) (hp_last (by simp))))
  with_reducible refine form_start fun W hgW hx h5 h6 => ?_
  generalize hg5 : w.heap.size + 1 + 1 + 1 = g5 at *
  generalize hg6 : g5 + 1 = g6 at *
  clear hg5 hg6
  have W1 := lt_of_heap' hx
  have W2 := lt_of_heap' h5
  have W3 := lt_of_heap' h6
  obtain ⟨⟨p0, q0⟩, ⟨p1, q1⟩, ⟨p2, q2⟩, ⟨p3, q3⟩, ⟨p4, q4⟩, ⟨p5, q5⟩, ⟨p6, q6⟩, ⟨p7, q7⟩, ⟨p8, q8⟩, ⟨p9, q9⟩, ⟨p10, q10⟩, ⟨p11, q11⟩⟩ := c12 hx
  go_upto_region 37 with fail
  go_quiet (fail)
  go_upto_region 40 with fail
  clear p0 q0 p1 q1 p2 q2 p3 q3 p4 q4 p5 q5 p6 q6 p7 q7 p8 q8 p9 q9 p10 q10 p11 q11 W1 W2 W3
  refine cutF (w := w) (g5 := g5) (g6 := g6) (GN.drewN hgW _) hx h5 h6 fun W4 hgWn hxn h5n h6n => ?_
  clear hgW hx h5 h6 
  have hgW := hgWn
  have hx := hxn
  have h5 := h5n
  have h6 := h6n
  clear hgWn hxn h5n h6n
  have W1 := lt_of_heap' hx
  have W2 := lt_of_heap' h5
  have W3 := lt_of_heap' h6
  obtain ⟨⟨p0, q0⟩, ⟨p1, q1⟩, ⟨p2, q2⟩, ⟨p3, q3⟩, ⟨p4, q4⟩, ⟨p5, q5⟩, ⟨p6, q6⟩, ⟨p7, q7⟩, ⟨p8, q8⟩, ⟨p9, q9⟩, ⟨p10, q10⟩, ⟨p11, q11⟩⟩ := c12 hx
  go_quiet ((go_at_call 46; exact Calls.quiet_of (put_any _ _ _ (by decide) (by decide) _)))
  go_wp2
  go_ret2
  exact ⟨by rw [unhide Hz]; rfl, gnt⟩
set_option maxRecDepth 100000 in
set_option maxHeartbeats 4000000 in
theorem form_7 (rd r1 r2 r3 rm c sz i : Int) (hi : (Lit.int .i64 i).wf = true) (_hz : (Lit.int .i64 sz).wf = true) (ui : Bool) (us wd : Bool) (w : World) : Calls Try.prog 33 #[.agg #[.int .i64 7, .int .i64 rd, .int .i64 r1, .int .i64 r2, .int .i64 r3, .int .i64 rm, .int .i64 c, .int .i64 sz, .int .i64 i, .bool ui, .bool us, .bool wd]] w fun e w' => e = .returned (.tuple #[.int .u32 ((or32 (or32 (or32 (or32 (or32 (or32 (or32 (99) (16384)) (putN r1 15 5)) (putN r2 20 5)) (putN (i / 2) 8 4)) (putN (i / 32) 25 6)) (putN (i / 2048) 7 1)) (putN (i / 4096) 31 1) : Nat) : Int), .bool true]) ∧ GN w w' := by
  obtain ⟨z, hz⟩ : ∃ z : Int, z = ((or32 (or32 (or32 (or32 (or32 (or32 (or32 (99) (16384)) (putN r1 15 5)) (putN r2 20 5)) (putN (i / 2) 8 4)) (putN (i / 32) 25 6)) (putN (i / 2048) 7 1)) (putN (i / 4096) 31 1) : Nat) : Int) := ⟨_, rfl⟩
  rw [← hz]
  simp only [or32_cast, Int.cast_ofNat_Int] at hz
  have Hz := hide hz
  clear hz
  have hi2 := i64' hi
  go_enter Try.func33, Try.ntmps33
  go_upto_region 2 with (first | (go_at_call 21; refine (branches_ab _).mono ?_; rintro _ _ ⟨B, hB, rfl, o_, rfl⟩) | (go_at_call 38; refine (atomics_ab _).mono ?_; rintro _ _ ⟨A, hA, rfl, o_, rfl⟩) | (refine wpL_store_row rfl 38 (.tmp 4) (.tmp 12) rfl _ B rfl rfl 38 #[.int .i64 0, .int .i64 0, .int .i64 0, .int .i64 0, .int .i64 0, .int .i64 0, .int .i64 0, .int .i64 0] ?_ (info38 hB).1 (info38 hB).2.1 (info38 hB).2.2 ?_; · exact hp_alloc (hp_last (by simp))) | (refine wpL_store_row rfl 52 (.tmp 5) (.tmp 13) rfl _ A rfl rfl 52 #[.int .i64 0, .int .i64 0, .int .i64 0, .int .i64 0, .int .i64 0, .int .i64 0, .int .i64 0, .int .i64 0, .int .i64 0, .int .i64 0, .int .i64 0, .int .i64 0, .int .i64 0, .int .i64 0, .int .i64 0, .int .i64 0, .int .i64 0, .int .i64 0, .int .i64 0, .int .i64 0, .int .i64 0, .int .i64 0, .int .i64 0, .int .i64 0, .int .i64 0, .int .i64 0, .int .i64 0, .int .i64 0, .int .i64 0, .int .i64 0, .int .i64 0, .int .i64 0] ?_ (info52 hA).1 (info52 hA).2.1 (info52 hA).2.2 ?_; · exact row_ne (by omega) (hp_last (by simp))))
  with_reducible refine form_start fun W hgW hx h5 h6 => ?_
  generalize hg5 : w.heap.size + 1 + 1 + 1 = g5 at *
  generalize hg6 : g5 + 1 = g6 at *
  clear hg5 hg6
  have W1 := lt_of_heap' hx
  have W2 := lt_of_heap' h5
  have W3 := lt_of_heap' h6
  obtain ⟨⟨p0, q0⟩, ⟨p1, q1⟩, ⟨p2, q2⟩, ⟨p3, q3⟩, ⟨p4, q4⟩, ⟨p5, q5⟩, ⟨p6, q6⟩, ⟨p7, q7⟩, ⟨p8, q8⟩, ⟨p9, q9⟩, ⟨p10, q10⟩, ⟨p11, q11⟩⟩ := c12 hx
  have hf : placeN brL 7 = 4 := by decide
  go_upto_region 41 with fail
  have C5 := hide (cells_of (l := brL) (unhide hB) h5)
  go_quiet ((go_at_call 52; exact Calls.quiet_of (place_any brL 7 g5 8 rfl (by decide) _ (unhide C5))))
  clear C5
  go_upto_region 43 with fail
  clear p0 q0 p1 q1 p2 q2 p3 q3 p4 q4 p5 q5 p6 q6 p7 q7 p8 q8 p9 q9 p10 q10 p11 q11 W1 W2 W3
  refine cutF (w := w) (g5 := g5) (g6 := g6) (GN.drewN hgW _) hx h5 h6 fun W4 hgWn hxn h5n h6n => ?_
  clear hgW hx h5 h6 
  have hgW := hgWn
  have hx := hxn
  have h5 := h5n
  have h6 := h6n
  clear hgWn hxn h5n h6n
  have W1 := lt_of_heap' hx
  have W2 := lt_of_heap' h5
  have W3 := lt_of_heap' h6
  obtain ⟨⟨p0, q0⟩, ⟨p1, q1⟩, ⟨p2, q2⟩, ⟨p3, q3⟩, ⟨p4, q4⟩, ⟨p5, q5⟩, ⟨p6, q6⟩, ⟨p7, q7⟩, ⟨p8, q8⟩, ⟨p9, q9⟩, ⟨p10, q10⟩, ⟨p11, q11⟩⟩ := c12 hx
  go_quiet ((go_at_call 46; exact Calls.quiet_of (put_any _ _ _ (by decide) (by decide) _)))
  go_wp2
  go_ret2
  exact ⟨by rw [unhide Hz]; rfl, gnt⟩
theorem cv_at {p : Nat} (hp : p = 0 ∨ p = 1 ∨ p = 2 ∨ p = 3 ∨ p = 4 ∨ p = 8 ∨ p = 12 ∨ p = 16 ∨ p = 20 ∨ p = 24 ∨ p = 28) (w : World) : (convert 3 22 (.int .i64 (p : Int))).run Try.prog w = .ok (.int .u32 (p : Int)) w := by
  rcases hp with rfl | rfl | rfl | rfl | rfl | rfl | rfl | rfl | rfl | rfl | rfl <;> kernel_rfl
theorem sh_at27 {p : Nat} (hp : p = 0 ∨ p = 1 ∨ p = 2 ∨ p = 3 ∨ p = 4 ∨ p = 8 ∨ p = 12 ∨ p = 16 ∨ p = 20 ∨ p = 24 ∨ p = 28) (w : World) : (binOp .shl 22 (.int .u32 (p : Int)) (.int .u64 27)).run Try.prog w = .ok (.int .u32 ((p * 134217728 : Nat) : Int)) w := by
  rcases hp with rfl | rfl | rfl | rfl | rfl | rfl | rfl | rfl | rfl | rfl | rfl <;> kernel_rfl
set_option maxRecDepth 100000 in
set_option maxHeartbeats 4000000 in
theorem form_at (k : Int) (p : Nat) (hp : p = 0 ∨ p = 1 ∨ p = 2 ∨ p = 3 ∨ p = 4 ∨ p = 8 ∨ p = 12 ∨ p = 16 ∨ p = 20 ∨ p = 24 ∨ p = 28) (rd r1 r2 r3 rm c sz i : Int) (hi : (Lit.int .i64 i).wf = true) (hz : (Lit.int .i64 sz).wf = true) (ui : Bool) (us wd : Bool) (w : World) (n1 : (k == 1) = false) (n2 : (k == 2) = false) (n3 : (k == 3) = false) (n4 : (k == 4) = false) (n11 : (k == 11) = false) (n12 : (k == 12) = false) (n53 : (k == 53) = false) (n54 : (k == 54) = false) (n31 : (k == 31) = false) (n32 : (k == 32) = false) (n33 : (k == 33) = false) (n34 : (k == 34) = false) (n50 : (k == 50) = false) (n49 : (k == 49) = false) (n51 : (k == 51) = false) (n52 : (k == 52) = false) (n35 : (k == 35) = false) (n36 : (k == 36) = false) (n37 : (k == 37) = false) (hf : placeN brL k = -1) (hf2 : placeN atL k = (p : Int)) : Calls Try.prog 33 #[.agg #[.int .i64 k, .int .i64 rd, .int .i64 r1, .int .i64 r2, .int .i64 r3, .int .i64 rm, .int .i64 c, .int .i64 sz, .int .i64 i, .bool ui, .bool us, .bool wd]] w fun e w' => e = .returned (.tuple #[.int .u32 ((or32 (or32 (or32 (47) (logN sz * 4096 % 4294967296)) (p * 134217728)) (rN rd r1 r2) : Nat) : Int), .bool true]) ∧ GN w w' := by
  obtain ⟨hs1, hs2⟩ := i64' hz
  go_enter Try.func33, Try.ntmps33
  go_upto_region 2 with (first | (go_at_call 21; refine (branches_ab _).mono ?_; rintro _ _ ⟨B, hB, rfl, o_, rfl⟩) | (go_at_call 38; refine (atomics_ab _).mono ?_; rintro _ _ ⟨A, hA, rfl, o_, rfl⟩) | (refine wpL_store_row rfl 38 (.tmp 4) (.tmp 12) rfl _ B rfl rfl 38 #[.int .i64 0, .int .i64 0, .int .i64 0, .int .i64 0, .int .i64 0, .int .i64 0, .int .i64 0, .int .i64 0] ?_ (info38 hB).1 (info38 hB).2.1 (info38 hB).2.2 ?_; · exact hp_alloc (hp_last (by simp))) | (refine wpL_store_row rfl 52 (.tmp 5) (.tmp 13) rfl _ A rfl rfl 52 #[.int .i64 0, .int .i64 0, .int .i64 0, .int .i64 0, .int .i64 0, .int .i64 0, .int .i64 0, .int .i64 0, .int .i64 0, .int .i64 0, .int .i64 0, .int .i64 0, .int .i64 0, .int .i64 0, .int .i64 0, .int .i64 0, .int .i64 0, .int .i64 0, .int .i64 0, .int .i64 0, .int .i64 0, .int .i64 0, .int .i64 0, .int .i64 0, .int .i64 0, .int .i64 0, .int .i64 0, .int .i64 0, .int .i64 0, .int .i64 0, .int .i64 0, .int .i64 0] ?_ (info52 hA).1 (info52 hA).2.1 (info52 hA).2.2 ?_; · exact row_ne (by omega) (hp_last (by simp))))
  with_reducible refine form_start fun W hgW hx h5 h6 => ?_
  generalize hg5 : w.heap.size + 1 + 1 + 1 = g5 at *
  generalize hg6 : g5 + 1 = g6 at *
  clear hg5 hg6
  have W1 := lt_of_heap' hx
  have W2 := lt_of_heap' h5
  have W3 := lt_of_heap' h6
  obtain ⟨⟨p0, q0⟩, ⟨p1, q1⟩, ⟨p2, q2⟩, ⟨p3, q3⟩, ⟨p4, q4⟩, ⟨p5, q5⟩, ⟨p6, q6⟩, ⟨p7, q7⟩, ⟨p8, q8⟩, ⟨p9, q9⟩, ⟨p10, q10⟩, ⟨p11, q11⟩⟩ := c12 hx
  have CV := hide (cv_at hp)
  have SV := hide (sh_at27 hp)
  clear hp
  go_upto_region 41 with fail
  have C5 := hide (cells_of (l := brL) (unhide hB) h5)
  go_quiet ((go_at_call 52; exact Calls.quiet_of (place_any brL k g5 8 rfl (by decide) _ (unhide C5))))
  clear C5
  go_upto_region 44 with fail
  clear p0 q0 p1 q1 p2 q2 p3 q3 p4 q4 p5 q5 p6 q6 p7 q7 p8 q8 p9 q9 p10 q10 p11 q11 W1 W2 W3
  refine cutF (w := w) (g5 := g5) (g6 := g6) (GN.drewN hgW _) hx h5 h6 fun W4 hgWn hxn h5n h6n => ?_
  clear hgW hx h5 h6 
  have hgW := hgWn
  have hx := hxn
  have h5 := h5n
  have h6 := h6n
  clear hgWn hxn h5n h6n
  have W1 := lt_of_heap' hx
  have W2 := lt_of_heap' h5
  have W3 := lt_of_heap' h6
  obtain ⟨⟨p0, q0⟩, ⟨p1, q1⟩, ⟨p2, q2⟩, ⟨p3, q3⟩, ⟨p4, q4⟩, ⟨p5, q5⟩, ⟨p6, q6⟩, ⟨p7, q7⟩, ⟨p8, q8⟩, ⟨p9, q9⟩, ⟨p10, q10⟩, ⟨p11, q11⟩⟩ := c12 hx
  have C6 := hide (cells_of (l := atL) (unhide hA) h6)
  go_quiet ((go_at_call 52; exact Calls.quiet_of (place_any atL k g6 32 rfl (by decide) _ (unhide C6))))
  clear C6
  go_upto_region 46 with fail
  clear p0 q0 p1 q1 p2 q2 p3 q3 p4 q4 p5 q5 p6 q6 p7 q7 p8 q8 p9 q9 p10 q10 p11 q11 W1 W2 W3
  refine cutF (w := w) (g5 := g5) (g6 := g6) (GN.drewN hgW _) hx h5 h6 fun W5 hgWn hxn h5n h6n => ?_
  clear hgW hx h5 h6 
  have hgW := hgWn
  have hx := hxn
  have h5 := h5n
  have h6 := h6n
  clear hgWn hxn h5n h6n
  have W1 := lt_of_heap' hx
  have W2 := lt_of_heap' h5
  have W3 := lt_of_heap' h6
  obtain ⟨⟨p0, q0⟩, ⟨p1, q1⟩, ⟨p2, q2⟩, ⟨p3, q3⟩, ⟨p4, q4⟩, ⟨p5, q5⟩, ⟨p6, q6⟩, ⟨p7, q7⟩, ⟨p8, q8⟩, ⟨p9, q9⟩, ⟨p10, q10⟩, ⟨p11, q11⟩⟩ := c12 hx
  clear p0 q0 p1 q1 p2 q2 p3 q3 p4 q4 p5 q5 p6 q6 p7 q7 p8 q8 p9 q9 p10 q10 p11 q11
  rw [hf2]
  refine wp_region_F (fun w_ => GN W5 w_) GN (fun k_ v_ w_ => match k_ with
      | 0 => v_ = .pointer (some ⟨w.heap.size, 7, none⟩)
      | 1 => v_ = .int .i64 sz
      | 2 => v_ = .int .u32 ((logN sz : Nat) : Int)
      | 3 => v_ = .int .u32 ((logN sz * 4096 % 4294967296 : Nat) : Int)
      | 4 => v_ = .int .u32 ((or32 (47) (logN sz * 4096 % 4294967296) : Nat) : Int)
      | 5 => v_ = .int .i64 (p : Int)
      | 6 => v_ = .int .u32 (p : Int)
      | 7 => v_ = .int .u32 ((p * 134217728 : Nat) : Int)
      | 8 => v_ = .int .u32 ((or32 (or32 (47) (logN sz * 4096 % 4294967296)) (p * 134217728) : Nat) : Int)
      | 9 => v_ = .agg #[.int .i64 k, .int .i64 rd, .int .i64 r1, .int .i64 r2, .int .i64 r3, .int .i64 rm, .int .i64 c, .int .i64 sz, .int .i64 i, .bool ui, .bool us, .bool wd]
      | 10 => v_ = .int .u32 ((rN rd r1 r2 : Nat) : Int)
      | 11 => v_ = .int .u32 ((or32 (or32 (or32 (47) (logN sz * 4096 % 4294967296)) (p * 134217728)) (rN rd r1 r2) : Nat) : Int)
      | 12 => v_ = .int .u32 ((or32 (or32 (or32 (47) (logN sz * 4096 % 4294967296)) (p * 134217728)) (rN rd r1 r2) : Nat) : Int)
      | _ => v_ = .bool true) fol (by kernel_rfl) ?_ ?_ ?_ ?_
  · exact (GN.refl W5).drew
  · intro k_ v_ w_ w2_ h1 hg
    split at h1 <;> exact h1
  · intro vals
    show wpG _ _ _ _ _ _ 0 (_ :: _) _
    refine wpG_cons (gval (.pointer (some ⟨w.heap.size, 7, none⟩)) GN.refl fun w_ hJ hd => ?_) ?_
    · exact ⟨by kernel_rfl, by kernel_rfl, rfl⟩
    refine wpG_cons (gop (Instr.loadAt 3 (.pointer (some ⟨w.heap.size, 7, none⟩))) (.int .i64 sz) GN.refl fun w_ hJ hd => ?_) ?_
    · have e0 : vals 0 = _ := hd 0 (by decide) (by kernel_rfl)
      rw [e0]
      exact ⟨by kernel_rfl, by kernel_rfl, run_load1 (by kernel_rfl) (c12 (GN.heap hJ hx)).2.2.2.2.2.2.2.1.1, rfl⟩
    refine wpG_cons (gcall 48 #[.int .i64 sz] fun w_ hJ hd => ?_) ?_
    · have e1 : vals 1 = _ := hd 1 (by decide) (by kernel_rfl)
      rw [e1]
      exact ⟨by kernel_rfl, by kernel_rfl, (log_any sz hs1 hs2 w_).mono fun e w2 ⟨he, m, hw⟩ => ⟨_, he, by subst hw; exact hJ.drewN _, by subst hw; exact (GN.refl w_).drewN _, rfl⟩⟩
    refine wpG_cons (gop (binOp .shl 22 (.int .u32 ((logN sz : Nat) : Int)) (.int .u64 12)) (.int .u32 ((logN sz * 4096 % 4294967296 : Nat) : Int)) GN.refl fun w_ hJ hd => ?_) ?_
    · have e2 : vals 2 = _ := hd 2 (by decide) (by kernel_rfl)
      rw [e2]
      exact ⟨by kernel_rfl, by kernel_rfl, shl12 (logN sz) w_, rfl⟩
    refine wpG_cons (gop (binOp .or 22 (.int .u32 47) (.int .u32 ((logN sz * 4096 % 4294967296 : Nat) : Int))) (.int .u32 ((or32 (47) (logN sz * 4096 % 4294967296) : Nat) : Int)) GN.refl fun w_ hJ hd => ?_) ?_
    · have e3 : vals 3 = _ := hd 3 (by decide) (by kernel_rfl)
      rw [e3]
      exact ⟨by kernel_rfl, by kernel_rfl, or_run 47 (logN sz * 4096 % 4294967296) w_, rfl⟩
    refine wpG_cons (gval (.int .i64 (p : Int)) GN.refl fun w_ hJ hd => ?_) ?_
    · exact ⟨by kernel_rfl, by kernel_rfl, rfl⟩
    refine wpG_cons (gop (convert 3 22 (.int .i64 (p : Int))) (.int .u32 (p : Int)) GN.refl fun w_ hJ hd => ?_) ?_
    · have e5 : vals 5 = _ := hd 5 (by decide) (by kernel_rfl)
      rw [e5]
      exact ⟨by kernel_rfl, by kernel_rfl, unhide CV w_, rfl⟩
    refine wpG_cons (gop (binOp .shl 22 (.int .u32 (p : Int)) (.int .u64 27)) (.int .u32 ((p * 134217728 : Nat) : Int)) GN.refl fun w_ hJ hd => ?_) ?_
    · have e6 : vals 6 = _ := hd 6 (by decide) (by kernel_rfl)
      rw [e6]
      exact ⟨by kernel_rfl, by kernel_rfl, unhide SV w_, rfl⟩
    refine wpG_cons (gop (binOp .or 22 (.int .u32 ((or32 (47) (logN sz * 4096 % 4294967296) : Nat) : Int)) (.int .u32 ((p * 134217728 : Nat) : Int))) (.int .u32 ((or32 (or32 (47) (logN sz * 4096 % 4294967296)) (p * 134217728) : Nat) : Int)) GN.refl fun w_ hJ hd => ?_) ?_
    · have e4 : vals 4 = _ := hd 4 (by decide) (by kernel_rfl)
      have e7 : vals 7 = _ := hd 7 (by decide) (by kernel_rfl)
      rw [e4, e7]
      exact ⟨by kernel_rfl, by kernel_rfl, or_run _ (p * 134217728) w_, rfl⟩
    refine wpG_cons (gop (Instr.loadAt 25 (.pointer (some ⟨w.heap.size, 0, none⟩))) (.agg #[.int .i64 k, .int .i64 rd, .int .i64 r1, .int .i64 r2, .int .i64 r3, .int .i64 rm, .int .i64 c, .int .i64 sz, .int .i64 i, .bool ui, .bool us, .bool wd]) GN.refl fun w_ hJ hd => ?_) ?_
    · exact ⟨by kernel_rfl, by kernel_rfl, run_loadRow (GN.heap hJ hx), rfl⟩
    refine wpG_cons (gcall 51 #[.agg #[.int .i64 k, .int .i64 rd, .int .i64 r1, .int .i64 r2, .int .i64 r3, .int .i64 rm, .int .i64 c, .int .i64 sz, .int .i64 i, .bool ui, .bool us, .bool wd]] fun w_ hJ hd => ?_) ?_
    · have e9 : vals 9 = _ := hd 9 (by decide) (by kernel_rfl)
      rw [e9]
      exact ⟨by kernel_rfl, by kernel_rfl, (r_any _ _ _ _ _ _ _ _ _ hi _ _ _ w_).mono fun e w2 ⟨he, hq⟩ => ⟨_, he, GN.trans hJ hq, hq, rfl⟩⟩
    refine wpG_cons (gop (binOp .or 22 (.int .u32 ((or32 (or32 (47) (logN sz * 4096 % 4294967296)) (p * 134217728) : Nat) : Int)) (.int .u32 ((rN rd r1 r2 : Nat) : Int))) (.int .u32 ((or32 (or32 (or32 (47) (logN sz * 4096 % 4294967296)) (p * 134217728)) (rN rd r1 r2) : Nat) : Int)) GN.refl fun w_ hJ hd => ?_) ?_
    · have e8 : vals 8 = _ := hd 8 (by decide) (by kernel_rfl)
      have e10 : vals 10 = _ := hd 10 (by decide) (by kernel_rfl)
      rw [e8, e10]
      exact ⟨by kernel_rfl, by kernel_rfl, or_run _ _ w_, rfl⟩
    refine wpG_cons (gval (.int .u32 ((or32 (or32 (or32 (47) (logN sz * 4096 % 4294967296)) (p * 134217728)) (rN rd r1 r2) : Nat) : Int)) GN.refl fun w_ hJ hd => ?_) ?_
    · have e11 : vals 11 = _ := hd 11 (by decide) (by kernel_rfl)
      rw [e11]
      exact ⟨by kernel_rfl, by kernel_rfl, rfl⟩
    refine wpG_cons (gval (.bool true) GN.refl fun w_ hJ hd => ?_) wpG_nil
    · exact ⟨by kernel_rfl, by kernel_rfl, rfl⟩
  intro vals w_ hJ hf
  have e0 : vals 0 = _ := hf 0 (by decide)
  have e1 : vals 1 = _ := hf 1 (by decide)
  have e2 : vals 2 = _ := hf 2 (by decide)
  have e3 : vals 3 = _ := hf 3 (by decide)
  have e4 : vals 4 = _ := hf 4 (by decide)
  have e5 : vals 5 = _ := hf 5 (by decide)
  have e6 : vals 6 = _ := hf 6 (by decide)
  have e7 : vals 7 = _ := hf 7 (by decide)
  have e8 : vals 8 = _ := hf 8 (by decide)
  have e9 : vals 9 = _ := hf 9 (by decide)
  have e10 : vals 10 = _ := hf 10 (by decide)
  have e11 : vals 11 = _ := hf 11 (by decide)
  have e12 : vals 12 = _ := hf 12 (by decide)
  have e13 : vals 13 = _ := hf 13 (by decide)
  simp only [fillG, Nat.zero_add, Nat.reduceAdd, e0, e1, e2, e3, e4, e5, e6, e7, e8, e9, e10, e11, e12, e13, Act.put, List.setIfInBounds_toArray, List.set_cons_succ, List.set_cons_zero]
  clear e0 e1 e2 e3 e4 e5 e6 e7 e8 e9 e10 e11 e12 e13 hf
  have hgn := GN.trans hgW hJ
  go_wp2
  go_ret2
  exact ⟨rfl, gnt⟩
set_option maxRecDepth 100000 in
set_option maxHeartbeats 4000000 in
theorem form_flo (k : Int) (rd r1 r2 r3 rm c sz i : Int) (hi : (Lit.int .i64 i).wf = true) (_hz : (Lit.int .i64 sz).wf = true) (ui : Bool) (us wd : Bool) (w : World) (n1 : (k == 1) = false) (n2 : (k == 2) = false) (n3 : (k == 3) = false) (n4 : (k == 4) = false) (n11 : (k == 11) = false) (n12 : (k == 12) = false) (n53 : (k == 53) = false) (n54 : (k == 54) = false) (n31 : (k == 31) = false) (n32 : (k == 32) = false) (n33 : (k == 33) = false) (n34 : (k == 34) = false) (n50 : (k == 50) = false) (n49 : (k == 49) = false) (n51 : (k == 51) = false) (n52 : (k == 52) = false) (n35 : (k == 35) = false) (n36 : (k == 36) = false) (n37 : (k == 37) = false) (hb : placeN brL k = -1) (ha : placeN atL k = -1) (hs : (sumN k rd r1 r2 i ui wd).2 = false) : Calls Try.prog 33 #[.agg #[.int .i64 k, .int .i64 rd, .int .i64 r1, .int .i64 r2, .int .i64 r3, .int .i64 rm, .int .i64 c, .int .i64 sz, .int .i64 i, .bool ui, .bool us, .bool wd]] w fun e w' => e = .returned (.tuple #[.int .u32 ((floN k rd r1 r2 r3 rm sz us wd).1 : Nat), .bool (floN k rd r1 r2 r3 rm sz us wd).2]) ∧ GN w w' := by
  go_enter Try.func33, Try.ntmps33
  go_upto_region 2 with (first | (go_at_call 21; refine (branches_ab _).mono ?_; rintro _ _ ⟨B, hB, rfl, o_, rfl⟩) | (go_at_call 38; refine (atomics_ab _).mono ?_; rintro _ _ ⟨A, hA, rfl, o_, rfl⟩) | (refine wpL_store_row rfl 38 (.tmp 4) (.tmp 12) rfl _ B rfl rfl 38 #[.int .i64 0, .int .i64 0, .int .i64 0, .int .i64 0, .int .i64 0, .int .i64 0, .int .i64 0, .int .i64 0] ?_ (info38 hB).1 (info38 hB).2.1 (info38 hB).2.2 ?_; · exact hp_alloc (hp_last (by simp))) | (refine wpL_store_row rfl 52 (.tmp 5) (.tmp 13) rfl _ A rfl rfl 52 #[.int .i64 0, .int .i64 0, .int .i64 0, .int .i64 0, .int .i64 0, .int .i64 0, .int .i64 0, .int .i64 0, .int .i64 0, .int .i64 0, .int .i64 0, .int .i64 0, .int .i64 0, .int .i64 0, .int .i64 0, .int .i64 0, .int .i64 0, .int .i64 0, .int .i64 0, .int .i64 0, .int .i64 0, .int .i64 0, .int .i64 0, .int .i64 0, .int .i64 0, .int .i64 0, .int .i64 0, .int .i64 0, .int .i64 0, .int .i64 0, .int .i64 0, .int .i64 0] ?_ (info52 hA).1 (info52 hA).2.1 (info52 hA).2.2 ?_; · exact row_ne (by omega) (hp_last (by simp))))
  with_reducible refine form_start fun W hgW hx h5 h6 => ?_
  generalize hg5 : w.heap.size + 1 + 1 + 1 = g5 at *
  generalize hg6 : g5 + 1 = g6 at *
  clear hg5 hg6
  have W1 := lt_of_heap' hx
  have W2 := lt_of_heap' h5
  have W3 := lt_of_heap' h6
  obtain ⟨⟨p0, q0⟩, ⟨p1, q1⟩, ⟨p2, q2⟩, ⟨p3, q3⟩, ⟨p4, q4⟩, ⟨p5, q5⟩, ⟨p6, q6⟩, ⟨p7, q7⟩, ⟨p8, q8⟩, ⟨p9, q9⟩, ⟨p10, q10⟩, ⟨p11, q11⟩⟩ := c12 hx
  go_upto_region 41 with fail
  have C5 := hide (cells_of (l := brL) (unhide hB) h5)
  go_quiet ((go_at_call 52; exact Calls.quiet_of (place_any brL k g5 8 rfl (by decide) _ (unhide C5))))
  clear C5
  go_upto_region 44 with fail
  clear p0 q0 p1 q1 p2 q2 p3 q3 p4 q4 p5 q5 p6 q6 p7 q7 p8 q8 p9 q9 p10 q10 p11 q11 W1 W2 W3
  refine cutF (w := w) (g5 := g5) (g6 := g6) (GN.drewN hgW _) hx h5 h6 fun W4 hgWn hxn h5n h6n => ?_
  clear hgW hx h5 h6 
  have hgW := hgWn
  have hx := hxn
  have h5 := h5n
  have h6 := h6n
  clear hgWn hxn h5n h6n
  have W1 := lt_of_heap' hx
  have W2 := lt_of_heap' h5
  have W3 := lt_of_heap' h6
  obtain ⟨⟨p0, q0⟩, ⟨p1, q1⟩, ⟨p2, q2⟩, ⟨p3, q3⟩, ⟨p4, q4⟩, ⟨p5, q5⟩, ⟨p6, q6⟩, ⟨p7, q7⟩, ⟨p8, q8⟩, ⟨p9, q9⟩, ⟨p10, q10⟩, ⟨p11, q11⟩⟩ := c12 hx
  have C6 := hide (cells_of (l := atL) (unhide hA) h6)
  go_quiet ((go_at_call 52; exact Calls.quiet_of (place_any atL k g6 32 rfl (by decide) _ (unhide C6))))
  clear C6
  go_upto_region 48 with (go_at_call 53; refine (sum_any _ _ _ _ _ _ _ _ _ (by assumption) _ _ _ _).mono ?_; rintro _ w53 ⟨rfl, hq⟩)
  have hgn : GN w w53 := GN.trans gnt hq
  have hx9 := GN.heap hq (o := .cells #[.int .i64 k, .int .i64 rd, .int .i64 r1, .int .i64 r2, .int .i64 r3, .int .i64 rm, .int .i64 c, .int .i64 sz, .int .i64 i, .bool ui, .bool us, .bool wd] 25) (b := w.heap.size) hpt
  obtain ⟨⟨a0, b0⟩, ⟨a1, b1⟩, ⟨a2, b2⟩, ⟨a3, b3⟩, ⟨a4, b4⟩, ⟨a5, b5⟩, ⟨a6, b6⟩, ⟨a7, b7⟩, ⟨a8, b8⟩, ⟨a9, b9⟩, ⟨a10, b10⟩, ⟨a11, b11⟩⟩ := c12 hx9
  clear hq
  go_wp2_with (go_at_call 54; refine (flo_any _ _ _ _ _ _ _ _ _ (by assumption) _ _ _ _).mono ?_; rintro _ w54 ⟨rfl, hq⟩)
  have hgn2 : GN w w54 := GN.trans hgn hq
  go_ret2
  exact ⟨rfl, hgn2⟩
end Go.Proofs.Ytopbdiekfhikmaa
namespace Go.Proofs.Ytopbdiekfhikmaa
open Go.RowKit
set_option maxRecDepth 100000 in
set_option maxHeartbeats 4000000 in
theorem form_2 (rd r1 r2 r3 rm c sz i : Int) (hi : (Lit.int .i64 i).wf = true) (_hz : (Lit.int .i64 sz).wf = true) (ui : Bool) (us wd : Bool) (w : World) : Calls Try.prog 33 #[.agg #[.int .i64 2, .int .i64 rd, .int .i64 r1, .int .i64 r2, .int .i64 r3, .int .i64 rm, .int .i64 c, .int .i64 sz, .int .i64 i, .bool ui, .bool us, .bool wd]] w fun e w' => e = .returned (.tuple #[.int .u32 ((or32 (or32 (23) (putN rd 7 5)) (an12 i) : Nat) : Int), .bool true]) ∧ GN w w' := by
  obtain ⟨z, hz⟩ : ∃ z : Int, z = ((or32 (or32 (23) (putN rd 7 5)) (an12 i) : Nat) : Int) := ⟨_, rfl⟩
  rw [← hz]
  simp only [or32_cast, an12_cast, Int.cast_ofNat_Int] at hz
  have Hz := hide hz
  clear hz
  have hi2 := i64' hi
  go_enter Try.func33, Try.ntmps33
  go_upto_region 2 with (first | (go_at_call 21; refine (branches_ab _).mono ?_; rintro _ _ ⟨B, hB, rfl, o_, rfl⟩) | (go_at_call 38; refine (atomics_ab _).mono ?_; rintro _ _ ⟨A, hA, rfl, o_, rfl⟩) | (refine wpL_store_row rfl 38 (.tmp 4) (.tmp 12) rfl _ B rfl rfl 38 #[.int .i64 0, .int .i64 0, .int .i64 0, .int .i64 0, .int .i64 0, .int .i64 0, .int .i64 0, .int .i64 0] ?_ (info38 hB).1 (info38 hB).2.1 (info38 hB).2.2 ?_; · exact hp_alloc (hp_last (by simp))) | (refine wpL_store_row rfl 52 (.tmp 5) (.tmp 13) rfl _ A rfl rfl 52 #[.int .i64 0, .int .i64 0, .int .i64 0, .int .i64 0, .int .i64 0, .int .i64 0, .int .i64 0, .int .i64 0, .int .i64 0, .int .i64 0, .int .i64 0, .int .i64 0, .int .i64 0, .int .i64 0, .int .i64 0, .int .i64 0, .int .i64 0, .int .i64 0, .int .i64 0, .int .i64 0, .int .i64 0, .int .i64 0, .int .i64 0, .int .i64 0, .int .i64 0, .int .i64 0, .int .i64 0, .int .i64 0, .int .i64 0, .int .i64 0, .int .i64 0, .int .i64 0] ?_ (info52 hA).1 (info52 hA).2.1 (info52 hA).2.2 ?_; · exact row_ne (by omega) (hp_last (by simp))))
  with_reducible refine form_start fun W hgW hx h5 h6 => ?_
  generalize hg5 : w.heap.size + 1 + 1 + 1 = g5 at *
  generalize hg6 : g5 + 1 = g6 at *
  clear hg5 hg6
  have W1 := lt_of_heap' hx
  have W2 := lt_of_heap' h5
  have W3 := lt_of_heap' h6
  obtain ⟨⟨p0, q0⟩, ⟨p1, q1⟩, ⟨p2, q2⟩, ⟨p3, q3⟩, ⟨p4, q4⟩, ⟨p5, q5⟩, ⟨p6, q6⟩, ⟨p7, q7⟩, ⟨p8, q8⟩, ⟨p9, q9⟩, ⟨p10, q10⟩, ⟨p11, q11⟩⟩ := c12 hx
  go_upto_region 6 with fail
  go_quiet ((go_at_call 46; exact Calls.quiet_of (put_any _ _ _ (by decide) (by decide) _)))
  go_wp2
  go_ret2
  exact ⟨by rw [unhide Hz]; rfl, gnt⟩
set_option maxRecDepth 100000 in
set_option maxHeartbeats 4000000 in
theorem form_12 (rd r1 r2 r3 rm c sz i : Int) (hi : (Lit.int .i64 i).wf = true) (hz : (Lit.int .i64 sz).wf = true) (ui : Bool) (us wd : Bool) (w : World) : Calls Try.prog 33 #[.agg #[.int .i64 12, .int .i64 rd, .int .i64 r1, .int .i64 r2, .int .i64 r3, .int .i64 rm, .int .i64 c, .int .i64 sz, .int .i64 i, .bool ui, .bool us, .bool wd]] w fun e w' => e = .returned (.tuple #[.int .u32 ((or32 (or32 (35) (logN sz * 4096 % 4294967296)) (sN r1 r2 i) : Nat) : Int), .bool true]) ∧ GN w w' := by
  obtain ⟨hs1, hs2⟩ := i64' hz
  go_enter Try.func33, Try.ntmps33
  go_upto_region 2 with (first | (go_at_call 21; refine (branches_ab _).mono ?_; rintro _ _ ⟨B, hB, rfl, o_, rfl⟩) | (go_at_call 38; refine (atomics_ab _).mono ?_; rintro _ _ ⟨A, hA, rfl, o_, rfl⟩) | (refine wpL_store_row rfl 38 (.tmp 4) (.tmp 12) rfl _ B rfl rfl 38 #[.int .i64 0, .int .i64 0, .int .i64 0, .int .i64 0, .int .i64 0, .int .i64 0, .int .i64 0, .int .i64 0] ?_ (info38 hB).1 (info38 hB).2.1 (info38 hB).2.2 ?_; · exact hp_alloc (hp_last (by simp))) | (refine wpL_store_row rfl 52 (.tmp 5) (.tmp 13) rfl _ A rfl rfl 52 #[.int .i64 0, .int .i64 0, .int .i64 0, .int .i64 0, .int .i64 0, .int .i64 0, .int .i64 0, .int .i64 0, .int .i64 0, .int .i64 0, .int .i64 0, .int .i64 0, .int .i64 0, .int .i64 0, .int .i64 0, .int .i64 0, .int .i64 0, .int .i64 0, .int .i64 0, .int .i64 0, .int .i64 0, .int .i64 0, .int .i64 0, .int .i64 0, .int .i64 0, .int .i64 0, .int .i64 0, .int .i64 0, .int .i64 0, .int .i64 0, .int .i64 0, .int .i64 0] ?_ (info52 hA).1 (info52 hA).2.1 (info52 hA).2.2 ?_; · exact row_ne (by omega) (hp_last (by simp))))
  with_reducible refine form_start fun W hgW hx h5 h6 => ?_
  generalize hg5 : w.heap.size + 1 + 1 + 1 = g5 at *
  generalize hg6 : g5 + 1 = g6 at *
  clear hg5 hg6
  have W1 := lt_of_heap' hx
  have W2 := lt_of_heap' h5
  have W3 := lt_of_heap' h6
  obtain ⟨⟨p0, q0⟩, ⟨p1, q1⟩, ⟨p2, q2⟩, ⟨p3, q3⟩, ⟨p4, q4⟩, ⟨p5, q5⟩, ⟨p6, q6⟩, ⟨p7, q7⟩, ⟨p8, q8⟩, ⟨p9, q9⟩, ⟨p10, q10⟩, ⟨p11, q11⟩⟩ := c12 hx
  go_upto_region 14 with fail
  clear p0 q0 p1 q1 p2 q2 p3 q3 p4 q4 p5 q5 p6 q6 p7 q7 p8 q8 p9 q9 p10 q10 p11 q11
  refine wp_region_F (fun w_ => GN W w_) GN (fun k_ v_ w_ => match k_ with
      | 0 => v_ = .pointer (some ⟨w.heap.size, 7, none⟩)
      | 1 => v_ = .int .i64 sz
      | 2 => v_ = .int .u32 ((logN sz : Nat) : Int)
      | 3 => v_ = .int .u32 ((logN sz * 4096 % 4294967296 : Nat) : Int)
      | 4 => v_ = .int .u32 ((or32 (35) (logN sz * 4096 % 4294967296) : Nat) : Int)
      | 5 => v_ = .agg #[.int .i64 12, .int .i64 rd, .int .i64 r1, .int .i64 r2, .int .i64 r3, .int .i64 rm, .int .i64 c, .int .i64 sz, .int .i64 i, .bool ui, .bool us, .bool wd]
      | 6 => v_ = .int .u32 ((sN r1 r2 i : Nat) : Int)
      | 7 => v_ = .int .u32 ((or32 (or32 (35) (logN sz * 4096 % 4294967296)) (sN r1 r2 i) : Nat) : Int)
      | 8 => v_ = .int .u32 ((or32 (or32 (35) (logN sz * 4096 % 4294967296)) (sN r1 r2 i) : Nat) : Int)
      | _ => v_ = .bool true) fol (by kernel_rfl) ?_ ?_ ?_ ?_
  · exact (GN.refl W).drew
  · intro k_ v_ w_ w2_ h1 hg
    split at h1 <;> exact h1
  · intro vals
    show wpG _ _ _ _ _ _ 0 (_ :: _) _
    refine wpG_cons (gval (.pointer (some ⟨w.heap.size, 7, none⟩)) GN.refl fun w_ hJ hd => ?_) ?_
    · exact ⟨by kernel_rfl, by kernel_rfl, rfl⟩
    refine wpG_cons (gop (Instr.loadAt 3 (.pointer (some ⟨w.heap.size, 7, none⟩))) (.int .i64 sz) GN.refl fun w_ hJ hd => ?_) ?_
    · have e0 : vals 0 = _ := hd 0 (by decide) (by kernel_rfl)
      rw [e0]
      exact ⟨by kernel_rfl, by kernel_rfl, run_load1 (by kernel_rfl) (c12 (GN.heap hJ hx)).2.2.2.2.2.2.2.1.1, rfl⟩
    refine wpG_cons (gcall 48 #[.int .i64 sz] fun w_ hJ hd => ?_) ?_
    · have e1 : vals 1 = _ := hd 1 (by decide) (by kernel_rfl)
      rw [e1]
      exact ⟨by kernel_rfl, by kernel_rfl, (log_any sz hs1 hs2 w_).mono fun e w2 ⟨he, m, hw⟩ => ⟨_, he, by subst hw; exact hJ.drewN _, by subst hw; exact (GN.refl w_).drewN _, rfl⟩⟩
    refine wpG_cons (gop (binOp .shl 22 (.int .u32 ((logN sz : Nat) : Int)) (.int .u64 12)) (.int .u32 ((logN sz * 4096 % 4294967296 : Nat) : Int)) GN.refl fun w_ hJ hd => ?_) ?_
    · have e2 : vals 2 = _ := hd 2 (by decide) (by kernel_rfl)
      rw [e2]
      exact ⟨by kernel_rfl, by kernel_rfl, shl12 (logN sz) w_, rfl⟩
    refine wpG_cons (gop (binOp .or 22 (.int .u32 35) (.int .u32 ((logN sz * 4096 % 4294967296 : Nat) : Int))) (.int .u32 ((or32 (35) (logN sz * 4096 % 4294967296) : Nat) : Int)) GN.refl fun w_ hJ hd => ?_) ?_
    · have e3 : vals 3 = _ := hd 3 (by decide) (by kernel_rfl)
      rw [e3]
      exact ⟨by kernel_rfl, by kernel_rfl, or_run 35 (logN sz * 4096 % 4294967296) w_, rfl⟩
    refine wpG_cons (gop (Instr.loadAt 25 (.pointer (some ⟨w.heap.size, 0, none⟩))) (.agg #[.int .i64 12, .int .i64 rd, .int .i64 r1, .int .i64 r2, .int .i64 r3, .int .i64 rm, .int .i64 c, .int .i64 sz, .int .i64 i, .bool ui, .bool us, .bool wd]) GN.refl fun w_ hJ hd => ?_) ?_
    · exact ⟨by kernel_rfl, by kernel_rfl, run_loadRow (GN.heap hJ hx), rfl⟩
    refine wpG_cons (gcall 50 #[.agg #[.int .i64 12, .int .i64 rd, .int .i64 r1, .int .i64 r2, .int .i64 r3, .int .i64 rm, .int .i64 c, .int .i64 sz, .int .i64 i, .bool ui, .bool us, .bool wd]] fun w_ hJ hd => ?_) ?_
    · have e5 : vals 5 = _ := hd 5 (by decide) (by kernel_rfl)
      rw [e5]
      exact ⟨by kernel_rfl, by kernel_rfl, (s_any _ _ _ _ _ _ _ _ _ hi _ _ _ w_).mono fun e w2 ⟨he, hq⟩ => ⟨_, he, GN.trans hJ hq, hq, rfl⟩⟩
    refine wpG_cons (gop (binOp .or 22 (.int .u32 ((or32 (35) (logN sz * 4096 % 4294967296) : Nat) : Int)) (.int .u32 ((sN r1 r2 i : Nat) : Int))) (.int .u32 ((or32 (or32 (35) (logN sz * 4096 % 4294967296)) (sN r1 r2 i) : Nat) : Int)) GN.refl fun w_ hJ hd => ?_) ?_
    · have e4 : vals 4 = _ := hd 4 (by decide) (by kernel_rfl)
      have e6 : vals 6 = _ := hd 6 (by decide) (by kernel_rfl)
      rw [e4, e6]
      exact ⟨by kernel_rfl, by kernel_rfl, or_run _ _ w_, rfl⟩
    refine wpG_cons (gval (.int .u32 ((or32 (or32 (35) (logN sz * 4096 % 4294967296)) (sN r1 r2 i) : Nat) : Int)) GN.refl fun w_ hJ hd => ?_) ?_
    · have e7 : vals 7 = _ := hd 7 (by decide) (by kernel_rfl)
      rw [e7]
      exact ⟨by kernel_rfl, by kernel_rfl, rfl⟩
    refine wpG_cons (gval (.bool true) GN.refl fun w_ hJ hd => ?_) wpG_nil
    · exact ⟨by kernel_rfl, by kernel_rfl, rfl⟩
  intro vals w_ hJ hf
  have e0 : vals 0 = _ := hf 0 (by decide)
  have e1 : vals 1 = _ := hf 1 (by decide)
  have e2 : vals 2 = _ := hf 2 (by decide)
  have e3 : vals 3 = _ := hf 3 (by decide)
  have e4 : vals 4 = _ := hf 4 (by decide)
  have e5 : vals 5 = _ := hf 5 (by decide)
  have e6 : vals 6 = _ := hf 6 (by decide)
  have e7 : vals 7 = _ := hf 7 (by decide)
  have e8 : vals 8 = _ := hf 8 (by decide)
  have e9 : vals 9 = _ := hf 9 (by decide)
  simp only [fillG, Nat.zero_add, Nat.reduceAdd, e0, e1, e2, e3, e4, e5, e6, e7, e8, e9, Act.put, List.setIfInBounds_toArray, List.set_cons_succ, List.set_cons_zero]
  clear e0 e1 e2 e3 e4 e5 e6 e7 e8 e9 hf
  have hgn := GN.trans hgW hJ
  go_wp2
  go_ret2
  exact ⟨rfl, gnt⟩
set_option maxRecDepth 100000 in
set_option maxHeartbeats 4000000 in
theorem form_32 (rd r1 r2 r3 rm c sz i : Int) (_hi : (Lit.int .i64 i).wf = true) (_hz : (Lit.int .i64 sz).wf = true) (ui : Bool) (us wd : Bool) (w : World) : Calls Try.prog 33 #[.agg #[.int .i64 32, .int .i64 rd, .int .i64 r1, .int .i64 r2, .int .i64 r3, .int .i64 rm, .int .i64 c, .int .i64 sz, .int .i64 i, .bool ui, .bool us, .bool wd]] w fun e w' => e = .returned (.tuple #[.int .u32 ((4111 : Nat) : Int), .bool true]) ∧ GN w w' := by
  obtain ⟨z, hz⟩ : ∃ z : Int, z = ((4111 : Nat) : Int) := ⟨_, rfl⟩
  rw [← hz]
  simp only [Int.cast_ofNat_Int] at hz
  have Hz := hide hz
  clear hz
  go_enter Try.func33, Try.ntmps33
  go_upto_region 2 with (first | (go_at_call 21; refine (branches_ab _).mono ?_; rintro _ _ ⟨B, hB, rfl, o_, rfl⟩) | (go_at_call 38; refine (atomics_ab _).mono ?_; rintro _ _ ⟨A, hA, rfl, o_, rfl⟩) | (refine wpL_store_row rfl 38 (.tmp 4) (.tmp 12) rfl _ B rfl rfl 38 #[.int .i64 0, .int .i64 0, .int .i64 0, .int .i64 0, .int .i64 0, .int .i64 0, .int .i64 0, .int .i64 0] ?_ (info38 hB).1 (info38 hB).2.1 (info38 hB).2.2 ?_; · exact hp_alloc (hp_last (by simp))) | (refine wpL_store_row rfl 52 (.tmp 5) (.tmp 13) rfl _ A rfl rfl 52 #[.int .i64 0, .int .i64 0, .int .i64 0, .int .i64 0, .int .i64 0, .int .i64 0, .int .i64 0, .int .i64 0, .int .i64 0, .int .i64 0, .int .i64 0, .int .i64 0, .int .i64 0, .int .i64 0, .int .i64 0, .int .i64 0, .int .i64 0, .int .i64 0, .int .i64 0, .int .i64 0, .int .i64 0, .int .i64 0, .int .i64 0, .int .i64 0, .int .i64 0, .int .i64 0, .int .i64 0, .int .i64 0, .int .i64 0, .int .i64 0, .int .i64 0, .int .i64 0] ?_ (info52 hA).1 (info52 hA).2.1 (info52 hA).2.2 ?_; · exact row_ne (by omega) (hp_last (by simp))))
  with_reducible refine form_start fun W hgW hx h5 h6 => ?_
  generalize hg5 : w.heap.size + 1 + 1 + 1 = g5 at *
  generalize hg6 : g5 + 1 = g6 at *
  clear hg5 hg6
  have W1 := lt_of_heap' hx
  have W2 := lt_of_heap' h5
  have W3 := lt_of_heap' h6
  obtain ⟨⟨p0, q0⟩, ⟨p1, q1⟩, ⟨p2, q2⟩, ⟨p3, q3⟩, ⟨p4, q4⟩, ⟨p5, q5⟩, ⟨p6, q6⟩, ⟨p7, q7⟩, ⟨p8, q8⟩, ⟨p9, q9⟩, ⟨p10, q10⟩, ⟨p11, q11⟩⟩ := c12 hx
  go_wp2
  go_ret2
  exact ⟨by rw [unhide Hz]; rfl, gnt⟩
set_option maxRecDepth 100000 in
set_option maxHeartbeats 4000000 in
theorem form_49 (rd r1 r2 r3 rm c sz i : Int) (_hi : (Lit.int .i64 i).wf = true) (_hz : (Lit.int .i64 sz).wf = true) (ui : Bool) (us wd : Bool) (w : World) : Calls Try.prog 33 #[.agg #[.int .i64 49, .int .i64 rd, .int .i64 r1, .int .i64 r2, .int .i64 r3, .int .i64 rm, .int .i64 c, .int .i64 sz, .int .i64 i, .bool ui, .bool us, .bool wd]] w fun e w' => e = .returned (.tuple #[.int .u32 ((807403635 : Nat) : Int), .bool true]) ∧ GN w w' := by
  obtain ⟨z, hz⟩ : ∃ z : Int, z = ((807403635 : Nat) : Int) := ⟨_, rfl⟩
  rw [← hz]
  simp only [Int.cast_ofNat_Int] at hz
  have Hz := hide hz
  clear hz
  go_enter Try.func33, Try.ntmps33
  go_upto_region 2 with (first | (go_at_call 21; refine (branches_ab _).mono ?_; rintro _ _ ⟨B, hB, rfl, o_, rfl⟩) | (go_at_call 38; refine (atomics_ab _).mono ?_; rintro _ _ ⟨A, hA, rfl, o_, rfl⟩) | (refine wpL_store_row rfl 38 (.tmp 4) (.tmp 12) rfl _ B rfl rfl 38 #[.int .i64 0, .int .i64 0, .int .i64 0, .int .i64 0, .int .i64 0, .int .i64 0, .int .i64 0, .int .i64 0] ?_ (info38 hB).1 (info38 hB).2.1 (info38 hB).2.2 ?_; · exact hp_alloc (hp_last (by simp))) | (refine wpL_store_row rfl 52 (.tmp 5) (.tmp 13) rfl _ A rfl rfl 52 #[.int .i64 0, .int .i64 0, .int .i64 0, .int .i64 0, .int .i64 0, .int .i64 0, .int .i64 0, .int .i64 0, .int .i64 0, .int .i64 0, .int .i64 0, .int .i64 0, .int .i64 0, .int .i64 0, .int .i64 0, .int .i64 0, .int .i64 0, .int .i64 0, .int .i64 0, .int .i64 0, .int .i64 0, .int .i64 0, .int .i64 0, .int .i64 0, .int .i64 0, .int .i64 0, .int .i64 0, .int .i64 0, .int .i64 0, .int .i64 0, .int .i64 0, .int .i64 0] ?_ (info52 hA).1 (info52 hA).2.1 (info52 hA).2.2 ?_; · exact row_ne (by omega) (hp_last (by simp))))
  with_reducible refine form_start fun W hgW hx h5 h6 => ?_
  generalize hg5 : w.heap.size + 1 + 1 + 1 = g5 at *
  generalize hg6 : g5 + 1 = g6 at *
  clear hg5 hg6
  have W1 := lt_of_heap' hx
  have W2 := lt_of_heap' h5
  have W3 := lt_of_heap' h6
  obtain ⟨⟨p0, q0⟩, ⟨p1, q1⟩, ⟨p2, q2⟩, ⟨p3, q3⟩, ⟨p4, q4⟩, ⟨p5, q5⟩, ⟨p6, q6⟩, ⟨p7, q7⟩, ⟨p8, q8⟩, ⟨p9, q9⟩, ⟨p10, q10⟩, ⟨p11, q11⟩⟩ := c12 hx
  go_wp2
  go_ret2
  exact ⟨by rw [unhide Hz]; rfl, gnt⟩
set_option maxRecDepth 100000 in
set_option maxHeartbeats 4000000 in
theorem form_35t (rd r1 r2 r3 rm c sz i : Int) (_hi : (Lit.int .i64 i).wf = true) (_hz : (Lit.int .i64 sz).wf = true) (us wd : Bool) (w : World) : Calls Try.prog 33 #[.agg #[.int .i64 35, .int .i64 rd, .int .i64 r1, .int .i64 r2, .int .i64 r3, .int .i64 rm, .int .i64 c, .int .i64 sz, .int .i64 i, .bool true, .bool us, .bool wd]] w fun e w' => e = .returned (.tuple #[.int .u32 ((or32 (or32 (or32 (or32 (115) (20480)) (putN rd 7 5)) (putN i 15 5)) (putN c 20 12) : Nat) : Int), .bool true]) ∧ GN w w' := by
  obtain ⟨z, hz⟩ : ∃ z : Int, z = ((or32 (or32 (or32 (or32 (115) (20480)) (putN rd 7 5)) (putN i 15 5)) (putN c 20 12) : Nat) : Int) := ⟨_, rfl⟩
  rw [← hz]
  simp only [or32_cast, Int.cast_ofNat_Int] at hz
  have Hz := hide hz
  clear hz
  go_enter Try.func33, Try.ntmps33
  go_upto_region 2 with (first | (go_at_call 21; refine (branches_ab _).mono ?_; rintro _ _ ⟨B, hB, rfl, o_, rfl⟩) | (go_at_call 38; refine (atomics_ab _).mono ?_; rintro _ _ ⟨A, hA, rfl, o_, rfl⟩) | (refine wpL_store_row rfl 38 (.tmp 4) (.tmp 12) rfl _ B rfl rfl 38 #[.int .i64 0, .int .i64 0, .int .i64 0, .int .i64 0, .int .i64 0, .int .i64 0, .int .i64 0, .int .i64 0] ?_ (info38 hB).1 (info38 hB).2.1 (info38 hB).2.2 ?_; · exact hp_alloc (hp_last (by simp))) | (refine wpL_store_row rfl 52 (.tmp 5) (.tmp 13) rfl _ A rfl rfl 52 #[.int .i64 0, .int .i64 0, .int .i64 0, .int .i64 0, .int .i64 0, .int .i64 0, .int .i64 0, .int .i64 0, .int .i64 0, .int .i64 0, .int .i64 0, .int .i64 0, .int .i64 0, .int .i64 0, .int .i64 0, .int .i64 0, .int .i64 0, .int .i64 0, .int .i64 0, .int .i64 0, .int .i64 0, .int .i64 0, .int .i64 0, .int .i64 0, .int .i64 0, .int .i64 0, .int .i64 0, .int .i64 0, .int .i64 0, .int .i64 0, .int .i64 0, .int .i64 0] ?_ (info52 hA).1 (info52 hA).2.1 (info52 hA).2.2 ?_; · exact row_ne (by omega) (hp_last (by simp))))
  with_reducible refine form_start fun W hgW hx h5 h6 => ?_
  generalize hg5 : w.heap.size + 1 + 1 + 1 = g5 at *
  generalize hg6 : g5 + 1 = g6 at *
  clear hg5 hg6
  have W1 := lt_of_heap' hx
  have W2 := lt_of_heap' h5
  have W3 := lt_of_heap' h6
  obtain ⟨⟨p0, q0⟩, ⟨p1, q1⟩, ⟨p2, q2⟩, ⟨p3, q3⟩, ⟨p4, q4⟩, ⟨p5, q5⟩, ⟨p6, q6⟩, ⟨p7, q7⟩, ⟨p8, q8⟩, ⟨p9, q9⟩, ⟨p10, q10⟩, ⟨p11, q11⟩⟩ := c12 hx
  go_upto_region 37 with fail
  go_quiet (fail)
  go_upto_region 39 with fail
  clear p0 q0 p1 q1 p2 q2 p3 q3 p4 q4 p5 q5 p6 q6 p7 q7 p8 q8 p9 q9 p10 q10 p11 q11 W1 W2 W3
  refine cutF (w := w) (g5 := g5) (g6 := g6) (GN.drewN hgW _) hx h5 h6 fun W4 hgWn hxn h5n h6n => ?_
  clear hgW hx h5 h6 
  have hgW := hgWn
  have hx := hxn
  have h5 := h5n
  have h6 := h6n
  clear hgWn hxn h5n h6n
  have W1 := lt_of_heap' hx
  have W2 := lt_of_heap' h5
  have W3 := lt_of_heap' h6
  obtain ⟨⟨p0, q0⟩, ⟨p1, q1⟩, ⟨p2, q2⟩, ⟨p3, q3⟩, ⟨p4, q4⟩, ⟨p5, q5⟩, ⟨p6, q6⟩, ⟨p7, q7⟩, ⟨p8, q8⟩, ⟨p9, q9⟩, ⟨p10, q10⟩, ⟨p11, q11⟩⟩ := c12 hx
  go_quiet (fail)
  go_upto_region 40 with fail
  clear p0 q0 p1 q1 p2 q2 p3 q3 p4 q4 p5 q5 p6 q6 p7 q7 p8 q8 p9 q9 p10 q10 p11 q11 W1 W2 W3
  refine cutF (w := w) (g5 := g5) (g6 := g6) (GN.drewN hgW _) hx h5 h6 fun W5 hgWn hxn h5n h6n => ?_
  clear hgW hx h5 h6 
  have hgW := hgWn
  have hx := hxn
  have h5 := h5n
  have h6 := h6n
  clear hgWn hxn h5n h6n
  have W1 := lt_of_heap' hx
  have W2 := lt_of_heap' h5
  have W3 := lt_of_heap' h6
  obtain ⟨⟨p0, q0⟩, ⟨p1, q1⟩, ⟨p2, q2⟩, ⟨p3, q3⟩, ⟨p4, q4⟩, ⟨p5, q5⟩, ⟨p6, q6⟩, ⟨p7, q7⟩, ⟨p8, q8⟩, ⟨p9, q9⟩, ⟨p10, q10⟩, ⟨p11, q11⟩⟩ := c12 hx
  go_quiet ((go_at_call 46; exact Calls.quiet_of (put_any _ _ _ (by decide) (by decide) _)))
  go_wp2
  go_ret2
  exact ⟨by rw [unhide Hz]; rfl, gnt⟩
set_option maxRecDepth 100000 in
set_option maxHeartbeats 4000000 in
theorem form_37t (rd r1 r2 r3 rm c sz i : Int) (_hi : (Lit.int .i64 i).wf = true) (_hz : (Lit.int .i64 sz).wf = true) (us wd : Bool) (w : World) : Calls Try.prog 33 #[.agg #[.int .i64 37, .int .i64 rd, .int .i64 r1, .int .i64 r2, .int .i64 r3, .int .i64 rm, .int .i64 c, .int .i64 sz, .int .i64 i, .bool true, .bool us, .bool wd]] w fun e w' => e = .returned (.tuple #[.int .u32 ((or32 (or32 (or32 (or32 (115) (28672)) (putN rd 7 5)) (putN i 15 5)) (putN c 20 12) : Nat) : Int), .bool true]) ∧ GN w w' := by
  obtain ⟨z, hz⟩ : ∃ z : Int, z = ((or32 (or32 (or32 (or32 (115) (28672)) (putN rd 7 5)) (putN i 15 5)) (putN c 20 12) : Nat) : Int) := ⟨_, rfl⟩
  rw [← hz]
  simp only [or32_cast, Int.cast_ofNat_Int] at hz
  have Hz := hide hz
  clear hz
  go_enter Try.func33, Try.ntmps33
  go_upto_region 2 with (first | (go_at_call 21; refine (branches_ab _).mono ?_; rintro _ _ ⟨B, hB, rfl, o_, rfl⟩) | (go_at_call 38; refine (atomics_ab _).mono ?_; rintro _ _ ⟨A, hA, rfl, o_, rfl⟩) | (refine wpL_store_row rfl 38 (.tmp 4) (.tmp 12) rfl _ B rfl rfl 38 #[.int .i64 0, .int .i64 0, .int .i64 0, .int .i64 0, .int .i64 0, .int .i64 0, .int .i64 0, .int .i64 0] ?_ (info38 hB).1 (info38 hB).2.1 (info38 hB).2.2 ?_; · exact hp_alloc (hp_last (by simp))) | (refine wpL_store_row rfl 52 (.tmp 5) (.tmp 13) rfl _ A rfl rfl 52 #[.int .i64 0, .int .i64 0, .int .i64 0, .int .i64 0, .int .i64 0, .int .i64 0, .int .i64 0, .int .i64 0, .int .i64 0, .int .i64 0, .int .i64 0, .int .i64 0, .int .i64 0, .int .i64 0, .int .i64 0, .int .i64 0, .int .i64 0, .int .i64 0, .int .i64 0, .int .i64 0, .int .i64 0, .int .i64 0, .int .i64 0, .int .i64 0, .int .i64 0, .int .i64 0, .int .i64 0, .int .i64 0, .int .i64 0, .int .i64 0, .int .i64 0, .int .i64 0] ?_ (info52 hA).1 (info52 hA).2.1 (info52 hA).2.2 ?_; · exact row_ne (by omega) (hp_last (by simp))))
  with_reducible refine form_start fun W hgW hx h5 h6 => ?_
  generalize hg5 : w.heap.size + 1 + 1 + 1 = g5 at *
  generalize hg6 : g5 + 1 = g6 at *
  clear hg5 hg6
  have W1 := lt_of_heap' hx
  have W2 := lt_of_heap' h5
  have W3 := lt_of_heap' h6
  obtain ⟨⟨p0, q0⟩, ⟨p1, q1⟩, ⟨p2, q2⟩, ⟨p3, q3⟩, ⟨p4, q4⟩, ⟨p5, q5⟩, ⟨p6, q6⟩, ⟨p7, q7⟩, ⟨p8, q8⟩, ⟨p9, q9⟩, ⟨p10, q10⟩, ⟨p11, q11⟩⟩ := c12 hx
  go_upto_region 37 with fail
  go_quiet (fail)
  go_upto_region 39 with fail
  clear p0 q0 p1 q1 p2 q2 p3 q3 p4 q4 p5 q5 p6 q6 p7 q7 p8 q8 p9 q9 p10 q10 p11 q11 W1 W2 W3
  refine cutF (w := w) (g5 := g5) (g6 := g6) (GN.drewN hgW _) hx h5 h6 fun W4 hgWn hxn h5n h6n => ?_
  clear hgW hx h5 h6 
  have hgW := hgWn
  have hx := hxn
  have h5 := h5n
  have h6 := h6n
  clear hgWn hxn h5n h6n
  have W1 := lt_of_heap' hx
  have W2 := lt_of_heap' h5
  have W3 := lt_of_heap' h6
  obtain ⟨⟨p0, q0⟩, ⟨p1, q1⟩, ⟨p2, q2⟩, ⟨p3, q3⟩, ⟨p4, q4⟩, ⟨p5, q5⟩, ⟨p6, q6⟩, ⟨p7, q7⟩, ⟨p8, q8⟩, ⟨p9, q9⟩, ⟨p10, q10⟩, ⟨p11, q11⟩⟩ := c12 hx
  go_quiet (fail)
  go_upto_region 40 with fail
  clear p0 q0 p1 q1 p2 q2 p3 q3 p4 q4 p5 q5 p6 q6 p7 q7 p8 q8 p9 q9 p10 q10 p11 q11 W1 W2 W3
  refine cutF (w := w) (g5 := g5) (g6 := g6) (GN.drewN hgW _) hx h5 h6 fun W5 hgWn hxn h5n h6n => ?_
  clear hgW hx h5 h6 
  have hgW := hgWn
  have hx := hxn
  have h5 := h5n
  have h6 := h6n
  clear hgWn hxn h5n h6n
  have W1 := lt_of_heap' hx
  have W2 := lt_of_heap' h5
  have W3 := lt_of_heap' h6
  obtain ⟨⟨p0, q0⟩, ⟨p1, q1⟩, ⟨p2, q2⟩, ⟨p3, q3⟩, ⟨p4, q4⟩, ⟨p5, q5⟩, ⟨p6, q6⟩, ⟨p7, q7⟩, ⟨p8, q8⟩, ⟨p9, q9⟩, ⟨p10, q10⟩, ⟨p11, q11⟩⟩ := c12 hx
  go_quiet ((go_at_call 46; exact Calls.quiet_of (put_any _ _ _ (by decide) (by decide) _)))
  go_wp2
  go_ret2
  exact ⟨by rw [unhide Hz]; rfl, gnt⟩
set_option maxRecDepth 100000 in
set_option maxHeartbeats 4000000 in
theorem form_8 (rd r1 r2 r3 rm c sz i : Int) (hi : (Lit.int .i64 i).wf = true) (_hz : (Lit.int .i64 sz).wf = true) (ui : Bool) (us wd : Bool) (w : World) : Calls Try.prog 33 #[.agg #[.int .i64 8, .int .i64 rd, .int .i64 r1, .int .i64 r2, .int .i64 r3, .int .i64 rm, .int .i64 c, .int .i64 sz, .int .i64 i, .bool ui, .bool us, .bool wd]] w fun e w' => e = .returned (.tuple #[.int .u32 ((or32 (or32 (or32 (or32 (or32 (or32 (or32 (99) (20480)) (putN r1 15 5)) (putN r2 20 5)) (putN (i / 2) 8 4)) (putN (i / 32) 25 6)) (putN (i / 2048) 7 1)) (putN (i / 4096) 31 1) : Nat) : Int), .bool true]) ∧ GN w w' := by
  obtain ⟨z, hz⟩ : ∃ z : Int, z = ((or32 (or32 (or32 (or32 (or32 (or32 (or32 (99) (20480)) (putN r1 15 5)) (putN r2 20 5)) (putN (i / 2) 8 4)) (putN (i / 32) 25 6)) (putN (i / 2048) 7 1)) (putN (i / 4096) 31 1) : Nat) : Int) := ⟨_, rfl⟩
  rw [← hz]
  simp only [or32_cast, Int.cast_ofNat_Int] at hz
  have Hz := hide hz
  clear hz
  have hi2 := i64' hi
  go_enter Try.func33, Try.ntmps33
  go_upto_region 2 with (first | (go_at_call 21; refine (branches_ab _).mono ?_; rintro _ _ ⟨B, hB, rfl, o_, rfl⟩) | (go_at_call 38; refine (atomics_ab _).mono ?_; rintro _ _ ⟨A, hA, rfl, o_, rfl⟩) | (refine wpL_store_row rfl 38 (.tmp 4) (.tmp 12) rfl _ B rfl rfl 38 #[.int .i64 0, .int .i64 0, .int .i64 0, .int .i64 0, .int .i64 0, .int .i64 0, .int .i64 0, .int .i64 0] ?_ (info38 hB).1 (info38 hB).2.1 (info38 hB).2.2 ?_; · exact hp_alloc (hp_last (by simp))) | (refine wpL_store_row rfl 52 (.tmp 5) (.tmp 13) rfl _ A rfl rfl 52 #[.int .i64 0, .int .i64 0, .int .i64 0, .int .i64 0, .int .i64 0, .int .i64 0, .int .i64 0, .int .i64 0, .int .i64 0, .int .i64 0, .int .i64 0, .int .i64 0, .int .i64 0, .int .i64 0, .int .i64 0, .int .i64 0, .int .i64 0, .int .i64 0, .int .i64 0, .int .i64 0, .int .i64 0, .int .i64 0, .int .i64 0, .int .i64 0, .int .i64 0, .int .i64 0, .int .i64 0, .int .i64 0, .int .i64 0, .int .i64 0, .int .i64 0, .int .i64 0] ?_ (info52 hA).1 (info52 hA).2.1 (info52 hA).2.2 ?_; · exact row_ne (by omega) (hp_last (by simp))))
  with_reducible refine form_start fun W hgW hx h5 h6 => ?_
  generalize hg5 : w.heap.size + 1 + 1 + 1 = g5 at *
  generalize hg6 : g5 + 1 = g6 at *
  clear hg5 hg6
  have W1 := lt_of_heap' hx
  have W2 := lt_of_heap' h5
  have W3 := lt_of_heap' h6
  obtain ⟨⟨p0, q0⟩, ⟨p1, q1⟩, ⟨p2, q2⟩, ⟨p3, q3⟩, ⟨p4, q4⟩, ⟨p5, q5⟩, ⟨p6, q6⟩, ⟨p7, q7⟩, ⟨p8, q8⟩, ⟨p9, q9⟩, ⟨p10, q10⟩, ⟨p11, q11⟩⟩ := c12 hx
  have hf : placeN brL 8 = 5 := by decide
  go_upto_region 41 with fail
  have C5 := hide (cells_of (l := brL) (unhide hB) h5)
  go_quiet ((go_at_call 52; exact Calls.quiet_of (place_any brL 8 g5 8 rfl (by decide) _ (unhide C5))))
  clear C5
  go_upto_region 43 with fail
  clear p0 q0 p1 q1 p2 q2 p3 q3 p4 q4 p5 q5 p6 q6 p7 q7 p8 q8 p9 q9 p10 q10 p11 q11 W1 W2 W3
  refine cutF (w := w) (g5 := g5) (g6 := g6) (GN.drewN hgW _) hx h5 h6 fun W4 hgWn hxn h5n h6n => ?_
  clear hgW hx h5 h6 
  have hgW := hgWn
  have hx := hxn
  have h5 := h5n
  have h6 := h6n
  clear hgWn hxn h5n h6n
  have W1 := lt_of_heap' hx
  have W2 := lt_of_heap' h5
  have W3 := lt_of_heap' h6
  obtain ⟨⟨p0, q0⟩, ⟨p1, q1⟩, ⟨p2, q2⟩, ⟨p3, q3⟩, ⟨p4, q4⟩, ⟨p5, q5⟩, ⟨p6, q6⟩, ⟨p7, q7⟩, ⟨p8, q8⟩, ⟨p9, q9⟩, ⟨p10, q10⟩, ⟨p11, q11⟩⟩ := c12 hx
  go_quiet ((go_at_call 46; exact Calls.quiet_of (put_any _ _ _ (by decide) (by decide) _)))
  go_wp2
  go_ret2
  exact ⟨by rw [unhide Hz]; rfl, gnt⟩
end Go.Proofs.Ytopbdiekfhikmaa
