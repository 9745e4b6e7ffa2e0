/- Layer 3: operations of floats. -/
import Derived.Test.YtopbdiekfhikmaaD4
namespace Go.Proofs.Ytopbdiekfhikmaa
open Go.RowKit
theorem rounded_ag (b : Nat) (hb : b < 4294967296) (k rd r1 r2 r3 rm c s i : Int) (u us wd : Bool) (w : World) : Calls Try.prog 39 #[.int .u32 b, .agg #[.int .i64 k, .int .i64 rd, .int .i64 r1, .int .i64 r2, .int .i64 r3, .int .i64 rm, .int .i64 c, .int .i64 s, .int .i64 i, .bool u, .bool us, .bool wd]] w fun e w' =>
    ∃ y : Ins, Hid (roundN (fd b 12 3) ⟨k, rd, r1, r2, r3, rm, c, s, i, u, us, wd⟩ = y) ∧ e = .returned (.agg #[.int .i64 y.kind, .int .i64 y.rd, .int .i64 y.rs1, .int .i64 y.rs2, .int .i64 y.rs3, .int .i64 y.rm, .int .i64 y.csr, .int .i64 y.size, .int .i64 y.imm, .bool y.ui, .bool y.us, .bool y.wd]) ∧ GN w w' :=
  (rounded_any b hb ⟨k, rd, r1, r2, r3, rm, c, s, i, u, us, wd⟩ w).mono fun _e _w' ⟨h1, h2⟩ => ⟨_, rfl, h1, h2⟩
def GR (c : Nat) (w w' : World) : Prop := w.grownBy w' (some c)
section
variable {w w' w2 : World} {c g : Nat}
theorem GR.refl (w : World) : GR c w w := ⟨rfl, rfl, rfl, Nat.le_refl _, fun _ _ _ => rfl⟩
theorem GR.trans (h : GR c w w') (k : GR c w' w2) : GR c w w2 := ⟨k.os.trans h.os, k.tape.trans h.tape, k.output.trans h.output, Nat.le_trans h.size k.size, fun i hi hn => (k.block i (Nat.lt_of_lt_of_le hi h.size) hn).trans (h.block i hi hn)⟩
theorem GR.of (h : GN w w') : GR c w w' := ⟨h.os, h.tape, h.output, h.size, fun i hi _ => h.block i hi (by simp)⟩
theorem GR.alloc (h : GR c w w') (o : Obj) : GR c w (w'.alloc o) := h.trans (GR.of ((GN.refl w').alloc o))
theorem GR.drewN (h : GR c w w') (n : Nat) : GR c w (w'.drewN n) := ⟨h.os, h.tape, h.output, h.size, h.block⟩
theorem GR.setR (h : GR c w w') (o : Nat) (x : Value) : GR c w (w'.setCell ⟨c, o, none⟩ x) := h.trans (grown_set' w' c o x)
theorem GR.setN (h : GR c w w') (hc : w.heap.size ≤ g) (o : Nat) (x : Value) : GR c w (w'.setCell ⟨g, o, none⟩ x) :=
  ⟨h.os, h.tape, h.output, by have := h.size; simpa [World.setCell] using this, fun k hk hn => (Below.heap_setCell w' ⟨g, o, none⟩ x k (by simp; omega)).trans (h.block k hk hn)⟩
theorem GR.gn (h : GR c w' w2) (k : GN w w') (hc : w.heap.size ≤ c) : GN w w2 :=
  ⟨h.os.trans k.os, h.tape.trans k.tape, h.output.trans k.output, Nat.le_trans k.size h.size, fun i hi _ => (h.block i (Nat.lt_of_lt_of_le hi k.size) (by simp; omega)).trans (k.block i hi (by simp))⟩
theorem hp_gr {o : Obj} (hq : GR c w w') (hne : g ≠ c) (h : w.heap[g]? = some o) : w'.heap[g]? = some o := (hq.block g (lt_of_heap' h) (by simp; omega)).trans h
end
theorem cell1 {w : World} {g : Nat} {v : Value} {T : TypeId} (h : w.heap[g]? = some (.cells #[v] T (0, 0))) : w.cell? ⟨g, 0, none⟩ = some v ∧ w.frozen? ⟨g, 0, none⟩ = false := cell_blk (xs := [v]) h 0
set_option maxRecDepth 100000 in
set_option maxHeartbeats 4000000 in
theorem three_any (first n f : Int) (f0 : -100 ≤ f) (f1 : f ≤ 100) (m0 : 0 ≤ first) (m1 : first ≤ 100) (W : World) (c6 c3 : Nat) (x0 x1 x2 x3 x4 x5 x6 x7 x8 : Int) (x9 x10 x11 : Bool) (h6 : W.heap[c6]? = some (.cells #[.int .i64 f] 3 (0, 0))) (h3 : W.heap[c3]? = some (.cells #[.int .i64 x0, .int .i64 x1, .int .i64 x2, .int .i64 x3, .int .i64 x4, .int .i64 x5, .int .i64 x6, .int .i64 x7, .int .i64 x8, .bool x9, .bool x10, .bool x11] 25 (0, 0))) (hne : c6 ≠ c3) :
    Calls Try.prog 57 #[.int .i64 first, .int .i64 n, .pointer (some ⟨c6, 0, none⟩), .pointer (some ⟨c3, 0, none⟩)] W fun e w' =>
    ∃ y : Ins, Hid ((if n ≤ f then zero else ⟨first + f, x1, x2, x3, x4, x5, x6, x7, x8, x9, x10, x11⟩) = y) ∧ e = .returned (.agg #[.int .i64 y.kind, .int .i64 y.rd, .int .i64 y.rs1, .int .i64 y.rs2, .int .i64 y.rs3, .int .i64 y.rm, .int .i64 y.csr, .int .i64 y.size, .int .i64 y.imm, .bool y.ui, .bool y.us, .bool y.wd]) ∧ GR c3 W w' := by
  have b6 := lt_of_heap' h6
  have b3 := lt_of_heap' h3
  obtain ⟨a6, a6'⟩ := cell1 h6
  obtain ⟨⟨p0, q0⟩, ⟨p1, q1⟩, ⟨p2, q2⟩, ⟨p3, q3⟩, ⟨p4, q4⟩, ⟨p5, q5⟩, ⟨p6, q6⟩, ⟨p7, q7⟩, ⟨p8, q8⟩, ⟨p9, q9⟩, ⟨p10, q10⟩, ⟨p11, q11⟩⟩ := c12 h3
  have n3 : W.heap.size ≠ c3 := by omega
  have n3' : c3 ≠ W.heap.size := by omega
  have n6 : W.heap.size ≠ c6 := by omega
  have n6' : c6 ≠ W.heap.size := by omega
  have hne' := hne.symm
  by_cases hn : n ≤ f
  · refine Calls.mono (R := fun e w' => e = .returned (insV zero) ∧ GR c3 W w') ?_ fun e w' ⟨h1, h2⟩ => ⟨zero, by rw [if_pos hn]; exact rfl, h1, h2⟩
    go_enter Try.func57, Try.ntmps57
    go_wp2
    refine fin25 6 rfl rfl rfl ⟨_, by (repeat (first | with_reducible assumption | with_reducible apply hp_row12 | (with_reducible refine hp_last ?_; · simp) | (with_reducible refine hp_set ?_ ?_; · simp) | with_reducible refine hp_drewN ?_ | with_reducible refine hp_alloc ?_)), rfl, ?_, ?_⟩
    · rfl
    · (repeat (first | with_reducible exact GR.refl _ | with_reducible refine GR.setR ?_ _ _ | (with_reducible refine GR.setN ?_ ?_ _ _; rotate_left; · first | exact Nat.le_refl _ | omega | (simp; done)) | with_reducible refine GR.alloc ?_ _ | with_reducible refine GR.drewN ?_ _))
  · refine Calls.mono (R := fun e w' => e = .returned (insV ⟨first + f, x1, x2, x3, x4, x5, x6, x7, x8, x9, x10, x11⟩) ∧ GR c3 W w') ?_ fun e w' ⟨h1, h2⟩ => ⟨_, by rw [if_neg hn]; exact rfl, h1, h2⟩
    go_enter Try.func57, Try.ntmps57
    go_wp2
    refine fin25 6 rfl rfl rfl ⟨_, by (repeat (first | with_reducible assumption | with_reducible apply hp_row12 | (with_reducible refine hp_last ?_; · simp) | (with_reducible refine hp_set ?_ ?_; · simp) | with_reducible refine hp_drewN ?_ | with_reducible refine hp_alloc ?_)), rfl, ?_, ?_⟩
    · rfl
    · (repeat (first | with_reducible exact GR.refl _ | with_reducible refine GR.setR ?_ _ _ | (with_reducible refine GR.setN ?_ ?_ _ _; rotate_left; · first | exact Nat.le_refl _ | omega | (simp; done)) | with_reducible refine GR.alloc ?_ _ | with_reducible refine GR.drewN ?_ _))
end Go.Proofs.Ytopbdiekfhikmaa
