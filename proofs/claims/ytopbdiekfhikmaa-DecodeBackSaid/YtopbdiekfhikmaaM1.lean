/- Layer 3: another target register, walked. -/
import Derived.Test.YtopbdiekfhikmaaK4
import Derived.Test.YtopbdiekfhikmaaL2
namespace Go.Proofs.Ytopbdiekfhikmaa
open Go.RowKit
theorem cut2 {w W0 : World} {c : Code} {Q : Exit → Act → World → Prop} {a : Act} {g g2 : Nat} {x y : Array Value} (hg : GN w W0) (hx : W0.heap[g]? = some (.cells x 25 (0, 0))) (hy : W0.heap[g2]? = some (.cells y 25 (0, 0)))
    (k : ∀ W, GN w W → W.heap[g]? = some (.cells x 25 (0, 0)) → W.heap[g2]? = some (.cells y 25 (0, 0)) → Code.wp Try.prog c Q a W) : Code.wp Try.prog c Q a W0 := k W0 hg hx hy
theorem eq_same {x : Ins} (h : WFI x) {s t : Operand} (w : World) : (do eqGuard .eql 25 s t (.agg (insA x)) (.agg (insA x)); binOp .eql 25 (.agg (insA x)) (.agg (insA x)) : Sem Value).run Try.prog w = .ok (.bool true) w :=
  eqg25 (by rw [eql25 h h w, decide_eq_true rfl])
theorem turn_bits {b : Nat} (hb : b < 4294967296) : bits .andNot .u32 (b : Int) 3968 = ((b / 4096 * 4096 + b % 128 : Nat) : Int) := by
  show IntKind.u32.wrap ((BitVec.ofInt 32 (b : Int) &&& ~~~BitVec.ofInt 32 3968).toNat : Int) = _
  have e1 : ((b : Int) % (2 ^ 32 : Nat)).toNat = b := by omega
  have e2 : 2 ^ 32 - 1 - ((3968 : Int) % (2 ^ 32 : Nat)).toNat = ((2 ^ 20 - 1) <<< 12) ||| (2 ^ 7 - 1) := by decide
  rw [BitVec.toNat_and, BitVec.toNat_not, bv_toNat, bv_toNat, e1, e2, Nat.and_or_distrib_left, nat_and_high 12 20 b (by omega), Nat.and_two_pow_sub_one_eq_mod]
  have h1 : b / 2 ^ 12 * 2 ^ 12 ||| b % 2 ^ 7 = b / 4096 * 4096 + b % 128 := by
    have := Nat.two_pow_add_eq_or_of_lt (i := 12) (b := b % 128) (by omega) (b / 4096)
    rw [Nat.mul_comm] at this
    exact this.symm
  rw [h1]
  simp [IntKind.wrap, IntKind.signed, IntKind.bits]
  omega
theorem turn_or {b r : Nat} (hb : b < 4294967296) (hr : r < 32) : bits .or .u32 ((b / 4096 * 4096 + b % 128 : Nat) : Int) ((r : Int) * 128) = ((b / 4096 * 4096 + r * 128 + b % 128 : Nat) : Int) := by
  have e := or32_cast (b / 4096 * 4096 + b % 128) (r * 128)
  rw [Int.natCast_mul] at e
  refine (e.symm.trans ?_)
  have h1 : b / 4096 * 4096 + b % 128 = b / 4096 * 4096 ||| b % 128 := by
    have := Nat.two_pow_add_eq_or_of_lt (i := 12) (b := b % 128) (by omega) (b / 4096)
    rw [Nat.mul_comm] at this
    exact this
  have h2 : r * 128 + b % 128 = r * 128 ||| b % 128 := by
    have := Nat.two_pow_add_eq_or_of_lt (i := 7) (b := b % 128) (by omega) r
    rw [Nat.mul_comm] at this
    exact this
  have h3 : b / 4096 * 4096 + (r * 128 + b % 128) = b / 4096 * 4096 ||| (r * 128 + b % 128) := by
    have := Nat.two_pow_add_eq_or_of_lt (i := 12) (b := r * 128 + b % 128) (by omega) (b / 4096)
    rw [Nat.mul_comm] at this
    exact this
  unfold or32
  rw [h1, Nat.or_assoc, Nat.or_comm (b % 128), ← h2, ← h3, Nat.mod_eq_of_lt (by omega), Nat.add_assoc]
set_option maxRecDepth 100000 in
set_option maxHeartbeats 4000000 in
theorem turns_l1 (b : Nat) (hb : b < 4294967296) (n : Int) (r : Nat) (hr32 : r < 32) (hr : bits .and .i64 n 31 = (r : Int)) (u : Nat) (hA : bits .andNot .u32 (b : Int) 3968 = (u : Int)) (v : Nat) (hO : bits .or .u32 (u : Int) ((r : Int) * 128) = (v : Int)) (hv : v < 4294967296) (q : Nat) (hq32 : q < 32) (hQ : bits .and .u32 ((b : Int) / 128) 31 = (q : Int)) (r1 r2 r3 rm c sz i : Int) (ui us wd : Bool) (hx0 : decN b = ⟨1, (q : Int), r1, r2, r3, rm, c, sz, i, ui, us, wd⟩) (hy0 : decN v = ⟨1, (r : Int), r1, r2, r3, rm, c, sz, i, ui, us, wd⟩) (w : World) : Calls Try.prog 7 #[.int .u32 b, .int .i64 n] w fun e w' => e = .returned (.bool true) ∧ GN w w' := by
  have HW : Hid (WFI ⟨1, (r : Int), r1, r2, r3, rm, c, sz, i, ui, us, wd⟩) := hy0 ▸ dec_wf v
  go_enter Try.func7, Try.ntmps7
  go_upto_region 4 with (first | (go_at_call 9; refine (awake_any _).mono ?_; rintro _ w9 ⟨rfl, hq9⟩) | (go_at_call 10; refine (dec_call hb hx0 _).mono ?_; rintro _ w10 ⟨rfl, hq10⟩))
  refine cutR (w := w) (g := w10.heap.size) (x := #[.int .i64 1, .int .i64 (q : Int), .int .i64 r1, .int .i64 r2, .int .i64 r3, .int .i64 rm, .int .i64 c, .int .i64 sz, .int .i64 i, .bool ui, .bool us, .bool wd]) (GN.alloc (GN.trans hq9 hq10) _) (heap_alloc_last _ _) fun W hgW hx => ?_
  have hgw0 : w.heap.size ≤ w10.heap.size := (GN.trans hq9 hq10).size
  generalize w10.heap.size = g at *
  go_upto_region 6 with (go_at_call 10; refine (dec_call hv hy0 _).mono ?_; rintro _ w11 ⟨rfl, hq11⟩)
  have hx11 := GN.heap hq11 hx
  have hlt := lt_of_heap' hx11
  have hgn : g ≠ w11.heap.size := by omega
  refine cut2 (w := w) (g := g) (g2 := w11.heap.size) (x := #[.int .i64 1, .int .i64 (q : Int), .int .i64 r1, .int .i64 r2, .int .i64 r3, .int .i64 rm, .int .i64 c, .int .i64 sz, .int .i64 i, .bool ui, .bool us, .bool wd]) (y := #[.int .i64 1, .int .i64 (r : Int), .int .i64 r1, .int .i64 r2, .int .i64 r3, .int .i64 rm, .int .i64 c, .int .i64 sz, .int .i64 i, .bool ui, .bool us, .bool wd]) (GN.alloc (GN.trans hgW hq11) _) (hp_alloc hx11) (heap_alloc_last _ _) fun W2 hgW2 hx2 hy2 => ?_
  generalize w11.heap.size = g2 at *
  have hgw : w.heap.size ≤ g := hgw0
  clear hq9 hq10 hq11 hgW hx hx11 hlt
  have hx := hx2
  have W1 := lt_of_heap' hx
  obtain ⟨⟨p0, q0⟩, ⟨p1, q1⟩, ⟨p2, q2⟩, ⟨p3, q3⟩, ⟨p4, q4⟩, ⟨p5, q5⟩, ⟨p6, q6⟩, ⟨p7, q7⟩, ⟨p8, q8⟩, ⟨p9, q9⟩, ⟨p10, q10⟩, ⟨p11, q11⟩⟩ := c12 hx
  go_upto_region 12 with fail
  refine cut2 (w := w) (g := g) (g2 := g2) (x := insA ⟨1, (r : Int), r1, r2, r3, rm, c, sz, i, ui, us, wd⟩) (y := insA ⟨1, (r : Int), r1, r2, r3, rm, c, sz, i, ui, us, wd⟩) (GN.set hgW2 hgw _ _) (heap_set' hx 1 _) (hp_set hgn.symm hy2) fun W3 hgW3 hx3 hy3 => ?_
  refine wp_list_O (fun w_ => w_ = W3) GN (fun k_ v_ w_ => match k_ with
      | 0 => v_ = .agg (insA ⟨1, (r : Int), r1, r2, r3, rm, c, sz, i, ui, us, wd⟩)
      | 1 => v_ = .agg (insA ⟨1, (r : Int), r1, r2, r3, rm, c, sz, i, ui, us, wd⟩)
      | 2 => v_ = .bool true
      | _ => v_ = .bool true) ?_ ?_ GN.refl ?_ ?_
  · rfl
  · intro k_ v_ w_ w2_ h1 hg
    split at h1 <;> exact h1
  · intro vals
    show wpO _ _ _ _ _ _ 0 (_ :: _) _
    refine wpO_cons (oop (Instr.loadAt 25 (.pointer (some ⟨g, 0, none⟩))) (.agg (insA ⟨1, (r : Int), r1, r2, r3, rm, c, sz, i, ui, us, wd⟩)) GN.refl fun w_ hJ hd => ?_) ?_
    · exact ⟨by kernel_rfl, by kernel_rfl, (by rw [hJ]; exact run_loadRow hx3), rfl⟩
    refine wpO_cons (oop (Instr.loadAt 25 (.pointer (some ⟨g2, 0, none⟩))) (.agg (insA ⟨1, (r : Int), r1, r2, r3, rm, c, sz, i, ui, us, wd⟩)) GN.refl fun w_ hJ hd => ?_) ?_
    · exact ⟨by kernel_rfl, by kernel_rfl, (by rw [hJ]; exact run_loadRow hy3), rfl⟩
    refine wpO_cons (oop ((do eqGuard .eql 25 (.tmp 85) (.tmp 86) (.agg (insA ⟨1, (r : Int), r1, r2, r3, rm, c, sz, i, ui, us, wd⟩)) (.agg (insA ⟨1, (r : Int), r1, r2, r3, rm, c, sz, i, ui, us, wd⟩)); binOp .eql 25 (.agg (insA ⟨1, (r : Int), r1, r2, r3, rm, c, sz, i, ui, us, wd⟩)) (.agg (insA ⟨1, (r : Int), r1, r2, r3, rm, c, sz, i, ui, us, wd⟩)))) (.bool true) GN.refl fun w_ hJ hd => ?_) ?_
    · have e0 : vals 0 = _ := hd 0 (by decide)
      have e1 : vals 1 = _ := hd 1 (by decide)
      rw [e0, e1]
      exact ⟨by kernel_rfl, by kernel_rfl, eq_same (unhide HW) w_, rfl⟩
    refine wpO_cons (oval (.bool true) GN.refl fun w_ hJ hd => ?_) wpO_nil
    · have e2 : vals 2 = _ := hd 2 (by decide)
      rw [e2]
      exact ⟨by kernel_rfl, by kernel_rfl, rfl⟩
  intro vals w_ hJ hf
  have e0 : vals 0 = _ := hf 0 (by decide)
  have e1 : vals 1 = _ := hf 1 (by decide)
  have e2 : vals 2 = _ := hf 2 (by decide)
  have e3 : vals 3 = _ := hf 3 (by decide)
  simp only [fillG, Nat.zero_add, Nat.reduceAdd, e0, e1, e2, e3, Act.put, List.setIfInBounds_toArray, List.set_cons_succ, List.set_cons_zero]
  clear e0 e1 e2 e3 hf
  obtain rfl : W3 = w_ := hJ.symm
  go_wp2
  go_ret
  exact ⟨rfl, hgW3⟩
set_option maxRecDepth 100000 in
set_option maxHeartbeats 4000000 in
theorem turns_l2 (b : Nat) (hb : b < 4294967296) (n : Int) (r : Nat) (hr32 : r < 32) (hr : bits .and .i64 n 31 = (r : Int)) (u : Nat) (hA : bits .andNot .u32 (b : Int) 3968 = (u : Int)) (v : Nat) (hO : bits .or .u32 (u : Int) ((r : Int) * 128) = (v : Int)) (hv : v < 4294967296) (q : Nat) (hq32 : q < 32) (hQ : bits .and .u32 ((b : Int) / 128) 31 = (q : Int)) (r1 r2 r3 rm c sz i : Int) (ui us wd : Bool) (hx0 : decN b = ⟨2, (q : Int), r1, r2, r3, rm, c, sz, i, ui, us, wd⟩) (hy0 : decN v = ⟨2, (r : Int), r1, r2, r3, rm, c, sz, i, ui, us, wd⟩) (w : World) : Calls Try.prog 7 #[.int .u32 b, .int .i64 n] w fun e w' => e = .returned (.bool true) ∧ GN w w' := by
  have HW : Hid (WFI ⟨2, (r : Int), r1, r2, r3, rm, c, sz, i, ui, us, wd⟩) := hy0 ▸ dec_wf v
  go_enter Try.func7, Try.ntmps7
  go_upto_region 4 with (first | (go_at_call 9; refine (awake_any _).mono ?_; rintro _ w9 ⟨rfl, hq9⟩) | (go_at_call 10; refine (dec_call hb hx0 _).mono ?_; rintro _ w10 ⟨rfl, hq10⟩))
  refine cutR (w := w) (g := w10.heap.size) (x := #[.int .i64 2, .int .i64 (q : Int), .int .i64 r1, .int .i64 r2, .int .i64 r3, .int .i64 rm, .int .i64 c, .int .i64 sz, .int .i64 i, .bool ui, .bool us, .bool wd]) (GN.alloc (GN.trans hq9 hq10) _) (heap_alloc_last _ _) fun W hgW hx => ?_
  have hgw0 : w.heap.size ≤ w10.heap.size := (GN.trans hq9 hq10).size
  generalize w10.heap.size = g at *
  go_upto_region 6 with (go_at_call 10; refine (dec_call hv hy0 _).mono ?_; rintro _ w11 ⟨rfl, hq11⟩)
  have hx11 := GN.heap hq11 hx
  have hlt := lt_of_heap' hx11
  have hgn : g ≠ w11.heap.size := by omega
  refine cut2 (w := w) (g := g) (g2 := w11.heap.size) (x := #[.int .i64 2, .int .i64 (q : Int), .int .i64 r1, .int .i64 r2, .int .i64 r3, .int .i64 rm, .int .i64 c, .int .i64 sz, .int .i64 i, .bool ui, .bool us, .bool wd]) (y := #[.int .i64 2, .int .i64 (r : Int), .int .i64 r1, .int .i64 r2, .int .i64 r3, .int .i64 rm, .int .i64 c, .int .i64 sz, .int .i64 i, .bool ui, .bool us, .bool wd]) (GN.alloc (GN.trans hgW hq11) _) (hp_alloc hx11) (heap_alloc_last _ _) fun W2 hgW2 hx2 hy2 => ?_
  generalize w11.heap.size = g2 at *
  have hgw : w.heap.size ≤ g := hgw0
  clear hq9 hq10 hq11 hgW hx hx11 hlt
  have hx := hx2
  have W1 := lt_of_heap' hx
  obtain ⟨⟨p0, q0⟩, ⟨p1, q1⟩, ⟨p2, q2⟩, ⟨p3, q3⟩, ⟨p4, q4⟩, ⟨p5, q5⟩, ⟨p6, q6⟩, ⟨p7, q7⟩, ⟨p8, q8⟩, ⟨p9, q9⟩, ⟨p10, q10⟩, ⟨p11, q11⟩⟩ := c12 hx
  go_upto_region 12 with fail
  refine cut2 (w := w) (g := g) (g2 := g2) (x := insA ⟨2, (r : Int), r1, r2, r3, rm, c, sz, i, ui, us, wd⟩) (y := insA ⟨2, (r : Int), r1, r2, r3, rm, c, sz, i, ui, us, wd⟩) (GN.set hgW2 hgw _ _) (heap_set' hx 1 _) (hp_set hgn.symm hy2) fun W3 hgW3 hx3 hy3 => ?_
  refine wp_list_O (fun w_ => w_ = W3) GN (fun k_ v_ w_ => match k_ with
      | 0 => v_ = .agg (insA ⟨2, (r : Int), r1, r2, r3, rm, c, sz, i, ui, us, wd⟩)
      | 1 => v_ = .agg (insA ⟨2, (r : Int), r1, r2, r3, rm, c, sz, i, ui, us, wd⟩)
      | 2 => v_ = .bool true
      | _ => v_ = .bool true) ?_ ?_ GN.refl ?_ ?_
  · rfl
  · intro k_ v_ w_ w2_ h1 hg
    split at h1 <;> exact h1
  · intro vals
    show wpO _ _ _ _ _ _ 0 (_ :: _) _
    refine wpO_cons (oop (Instr.loadAt 25 (.pointer (some ⟨g, 0, none⟩))) (.agg (insA ⟨2, (r : Int), r1, r2, r3, rm, c, sz, i, ui, us, wd⟩)) GN.refl fun w_ hJ hd => ?_) ?_
    · exact ⟨by kernel_rfl, by kernel_rfl, (by rw [hJ]; exact run_loadRow hx3), rfl⟩
    refine wpO_cons (oop (Instr.loadAt 25 (.pointer (some ⟨g2, 0, none⟩))) (.agg (insA ⟨2, (r : Int), r1, r2, r3, rm, c, sz, i, ui, us, wd⟩)) GN.refl fun w_ hJ hd => ?_) ?_
    · exact ⟨by kernel_rfl, by kernel_rfl, (by rw [hJ]; exact run_loadRow hy3), rfl⟩
    refine wpO_cons (oop ((do eqGuard .eql 25 (.tmp 85) (.tmp 86) (.agg (insA ⟨2, (r : Int), r1, r2, r3, rm, c, sz, i, ui, us, wd⟩)) (.agg (insA ⟨2, (r : Int), r1, r2, r3, rm, c, sz, i, ui, us, wd⟩)); binOp .eql 25 (.agg (insA ⟨2, (r : Int), r1, r2, r3, rm, c, sz, i, ui, us, wd⟩)) (.agg (insA ⟨2, (r : Int), r1, r2, r3, rm, c, sz, i, ui, us, wd⟩)))) (.bool true) GN.refl fun w_ hJ hd => ?_) ?_
    · have e0 : vals 0 = _ := hd 0 (by decide)
      have e1 : vals 1 = _ := hd 1 (by decide)
      rw [e0, e1]
      exact ⟨by kernel_rfl, by kernel_rfl, eq_same (unhide HW) w_, rfl⟩
    refine wpO_cons (oval (.bool true) GN.refl fun w_ hJ hd => ?_) wpO_nil
    · have e2 : vals 2 = _ := hd 2 (by decide)
      rw [e2]
      exact ⟨by kernel_rfl, by kernel_rfl, rfl⟩
  intro vals w_ hJ hf
  have e0 : vals 0 = _ := hf 0 (by decide)
  have e1 : vals 1 = _ := hf 1 (by decide)
  have e2 : vals 2 = _ := hf 2 (by decide)
  have e3 : vals 3 = _ := hf 3 (by decide)
  simp only [fillG, Nat.zero_add, Nat.reduceAdd, e0, e1, e2, e3, Act.put, List.setIfInBounds_toArray, List.set_cons_succ, List.set_cons_zero]
  clear e0 e1 e2 e3 hf
  obtain rfl : W3 = w_ := hJ.symm
  go_wp2
  go_ret
  exact ⟨rfl, hgW3⟩
set_option maxRecDepth 100000 in
set_option maxHeartbeats 4000000 in
theorem turns_l3 (b : Nat) (hb : b < 4294967296) (n : Int) (r : Nat) (hr32 : r < 32) (hr : bits .and .i64 n 31 = (r : Int)) (u : Nat) (hA : bits .andNot .u32 (b : Int) 3968 = (u : Int)) (v : Nat) (hO : bits .or .u32 (u : Int) ((r : Int) * 128) = (v : Int)) (hv : v < 4294967296) (q : Nat) (hq32 : q < 32) (hQ : bits .and .u32 ((b : Int) / 128) 31 = (q : Int)) (r1 r2 r3 rm c sz i : Int) (ui us wd : Bool) (hx0 : decN b = ⟨3, (q : Int), r1, r2, r3, rm, c, sz, i, ui, us, wd⟩) (hy0 : decN v = ⟨3, (r : Int), r1, r2, r3, rm, c, sz, i, ui, us, wd⟩) (w : World) : Calls Try.prog 7 #[.int .u32 b, .int .i64 n] w fun e w' => e = .returned (.bool true) ∧ GN w w' := by
  have HW : Hid (WFI ⟨3, (r : Int), r1, r2, r3, rm, c, sz, i, ui, us, wd⟩) := hy0 ▸ dec_wf v
  go_enter Try.func7, Try.ntmps7
  go_upto_region 4 with (first | (go_at_call 9; refine (awake_any _).mono ?_; rintro _ w9 ⟨rfl, hq9⟩) | (go_at_call 10; refine (dec_call hb hx0 _).mono ?_; rintro _ w10 ⟨rfl, hq10⟩))
  refine cutR (w := w) (g := w10.heap.size) (x := #[.int .i64 3, .int .i64 (q : Int), .int .i64 r1, .int .i64 r2, .int .i64 r3, .int .i64 rm, .int .i64 c, .int .i64 sz, .int .i64 i, .bool ui, .bool us, .bool wd]) (GN.alloc (GN.trans hq9 hq10) _) (heap_alloc_last _ _) fun W hgW hx => ?_
  have hgw0 : w.heap.size ≤ w10.heap.size := (GN.trans hq9 hq10).size
  generalize w10.heap.size = g at *
  go_upto_region 6 with (go_at_call 10; refine (dec_call hv hy0 _).mono ?_; rintro _ w11 ⟨rfl, hq11⟩)
  have hx11 := GN.heap hq11 hx
  have hlt := lt_of_heap' hx11
  have hgn : g ≠ w11.heap.size := by omega
  refine cut2 (w := w) (g := g) (g2 := w11.heap.size) (x := #[.int .i64 3, .int .i64 (q : Int), .int .i64 r1, .int .i64 r2, .int .i64 r3, .int .i64 rm, .int .i64 c, .int .i64 sz, .int .i64 i, .bool ui, .bool us, .bool wd]) (y := #[.int .i64 3, .int .i64 (r : Int), .int .i64 r1, .int .i64 r2, .int .i64 r3, .int .i64 rm, .int .i64 c, .int .i64 sz, .int .i64 i, .bool ui, .bool us, .bool wd]) (GN.alloc (GN.trans hgW hq11) _) (hp_alloc hx11) (heap_alloc_last _ _) fun W2 hgW2 hx2 hy2 => ?_
  generalize w11.heap.size = g2 at *
  have hgw : w.heap.size ≤ g := hgw0
  clear hq9 hq10 hq11 hgW hx hx11 hlt
  have hx := hx2
  have W1 := lt_of_heap' hx
  obtain ⟨⟨p0, q0⟩, ⟨p1, q1⟩, ⟨p2, q2⟩, ⟨p3, q3⟩, ⟨p4, q4⟩, ⟨p5, q5⟩, ⟨p6, q6⟩, ⟨p7, q7⟩, ⟨p8, q8⟩, ⟨p9, q9⟩, ⟨p10, q10⟩, ⟨p11, q11⟩⟩ := c12 hx
  go_upto_region 12 with fail
  refine cut2 (w := w) (g := g) (g2 := g2) (x := insA ⟨3, (r : Int), r1, r2, r3, rm, c, sz, i, ui, us, wd⟩) (y := insA ⟨3, (r : Int), r1, r2, r3, rm, c, sz, i, ui, us, wd⟩) (GN.set hgW2 hgw _ _) (heap_set' hx 1 _) (hp_set hgn.symm hy2) fun W3 hgW3 hx3 hy3 => ?_
  refine wp_list_O (fun w_ => w_ = W3) GN (fun k_ v_ w_ => match k_ with
      | 0 => v_ = .agg (insA ⟨3, (r : Int), r1, r2, r3, rm, c, sz, i, ui, us, wd⟩)
      | 1 => v_ = .agg (insA ⟨3, (r : Int), r1, r2, r3, rm, c, sz, i, ui, us, wd⟩)
      | 2 => v_ = .bool true
      | _ => v_ = .bool true) ?_ ?_ GN.refl ?_ ?_
  · rfl
  · intro k_ v_ w_ w2_ h1 hg
    split at h1 <;> exact h1
  · intro vals
    show wpO _ _ _ _ _ _ 0 (_ :: _) _
    refine wpO_cons (oop (Instr.loadAt 25 (.pointer (some ⟨g, 0, none⟩))) (.agg (insA ⟨3, (r : Int), r1, r2, r3, rm, c, sz, i, ui, us, wd⟩)) GN.refl fun w_ hJ hd => ?_) ?_
    · exact ⟨by kernel_rfl, by kernel_rfl, (by rw [hJ]; exact run_loadRow hx3), rfl⟩
    refine wpO_cons (oop (Instr.loadAt 25 (.pointer (some ⟨g2, 0, none⟩))) (.agg (insA ⟨3, (r : Int), r1, r2, r3, rm, c, sz, i, ui, us, wd⟩)) GN.refl fun w_ hJ hd => ?_) ?_
    · exact ⟨by kernel_rfl, by kernel_rfl, (by rw [hJ]; exact run_loadRow hy3), rfl⟩
    refine wpO_cons (oop ((do eqGuard .eql 25 (.tmp 85) (.tmp 86) (.agg (insA ⟨3, (r : Int), r1, r2, r3, rm, c, sz, i, ui, us, wd⟩)) (.agg (insA ⟨3, (r : Int), r1, r2, r3, rm, c, sz, i, ui, us, wd⟩)); binOp .eql 25 (.agg (insA ⟨3, (r : Int), r1, r2, r3, rm, c, sz, i, ui, us, wd⟩)) (.agg (insA ⟨3, (r : Int), r1, r2, r3, rm, c, sz, i, ui, us, wd⟩)))) (.bool true) GN.refl fun w_ hJ hd => ?_) ?_
    · have e0 : vals 0 = _ := hd 0 (by decide)
      have e1 : vals 1 = _ := hd 1 (by decide)
      rw [e0, e1]
      exact ⟨by kernel_rfl, by kernel_rfl, eq_same (unhide HW) w_, rfl⟩
    refine wpO_cons (oval (.bool true) GN.refl fun w_ hJ hd => ?_) wpO_nil
    · have e2 : vals 2 = _ := hd 2 (by decide)
      rw [e2]
      exact ⟨by kernel_rfl, by kernel_rfl, rfl⟩
  intro vals w_ hJ hf
  have e0 : vals 0 = _ := hf 0 (by decide)
  have e1 : vals 1 = _ := hf 1 (by decide)
  have e2 : vals 2 = _ := hf 2 (by decide)
  have e3 : vals 3 = _ := hf 3 (by decide)
  simp only [fillG, Nat.zero_add, Nat.reduceAdd, e0, e1, e2, e3, Act.put, List.setIfInBounds_toArray, List.set_cons_succ, List.set_cons_zero]
  clear e0 e1 e2 e3 hf
  obtain rfl : W3 = w_ := hJ.symm
  go_wp2
  go_ret
  exact ⟨rfl, hgW3⟩
set_option maxRecDepth 100000 in
set_option maxHeartbeats 4000000 in
theorem turns_l4 (b : Nat) (hb : b < 4294967296) (n : Int) (r : Nat) (hr32 : r < 32) (hr : bits .and .i64 n 31 = (r : Int)) (u : Nat) (hA : bits .andNot .u32 (b : Int) 3968 = (u : Int)) (v : Nat) (hO : bits .or .u32 (u : Int) ((r : Int) * 128) = (v : Int)) (hv : v < 4294967296) (q : Nat) (hq32 : q < 32) (hQ : bits .and .u32 ((b : Int) / 128) 31 = (q : Int)) (r1 r2 r3 rm c sz i : Int) (ui us wd : Bool) (hx0 : decN b = ⟨4, (q : Int), r1, r2, r3, rm, c, sz, i, ui, us, wd⟩) (hy0 : decN v = ⟨4, (r : Int), r1, r2, r3, rm, c, sz, i, ui, us, wd⟩) (w : World) : Calls Try.prog 7 #[.int .u32 b, .int .i64 n] w fun e w' => e = .returned (.bool true) ∧ GN w w' := by
  have HW : Hid (WFI ⟨4, (r : Int), r1, r2, r3, rm, c, sz, i, ui, us, wd⟩) := hy0 ▸ dec_wf v
  go_enter Try.func7, Try.ntmps7
  go_upto_region 4 with (first | (go_at_call 9; refine (awake_any _).mono ?_; rintro _ w9 ⟨rfl, hq9⟩) | (go_at_call 10; refine (dec_call hb hx0 _).mono ?_; rintro _ w10 ⟨rfl, hq10⟩))
  refine cutR (w := w) (g := w10.heap.size) (x := #[.int .i64 4, .int .i64 (q : Int), .int .i64 r1, .int .i64 r2, .int .i64 r3, .int .i64 rm, .int .i64 c, .int .i64 sz, .int .i64 i, .bool ui, .bool us, .bool wd]) (GN.alloc (GN.trans hq9 hq10) _) (heap_alloc_last _ _) fun W hgW hx => ?_
  have hgw0 : w.heap.size ≤ w10.heap.size := (GN.trans hq9 hq10).size
  generalize w10.heap.size = g at *
  go_upto_region 6 with (go_at_call 10; refine (dec_call hv hy0 _).mono ?_; rintro _ w11 ⟨rfl, hq11⟩)
  have hx11 := GN.heap hq11 hx
  have hlt := lt_of_heap' hx11
  have hgn : g ≠ w11.heap.size := by omega
  refine cut2 (w := w) (g := g) (g2 := w11.heap.size) (x := #[.int .i64 4, .int .i64 (q : Int), .int .i64 r1, .int .i64 r2, .int .i64 r3, .int .i64 rm, .int .i64 c, .int .i64 sz, .int .i64 i, .bool ui, .bool us, .bool wd]) (y := #[.int .i64 4, .int .i64 (r : Int), .int .i64 r1, .int .i64 r2, .int .i64 r3, .int .i64 rm, .int .i64 c, .int .i64 sz, .int .i64 i, .bool ui, .bool us, .bool wd]) (GN.alloc (GN.trans hgW hq11) _) (hp_alloc hx11) (heap_alloc_last _ _) fun W2 hgW2 hx2 hy2 => ?_
  generalize w11.heap.size = g2 at *
  have hgw : w.heap.size ≤ g := hgw0
  clear hq9 hq10 hq11 hgW hx hx11 hlt
  have hx := hx2
  have W1 := lt_of_heap' hx
  obtain ⟨⟨p0, q0⟩, ⟨p1, q1⟩, ⟨p2, q2⟩, ⟨p3, q3⟩, ⟨p4, q4⟩, ⟨p5, q5⟩, ⟨p6, q6⟩, ⟨p7, q7⟩, ⟨p8, q8⟩, ⟨p9, q9⟩, ⟨p10, q10⟩, ⟨p11, q11⟩⟩ := c12 hx
  go_upto_region 12 with fail
  refine cut2 (w := w) (g := g) (g2 := g2) (x := insA ⟨4, (r : Int), r1, r2, r3, rm, c, sz, i, ui, us, wd⟩) (y := insA ⟨4, (r : Int), r1, r2, r3, rm, c, sz, i, ui, us, wd⟩) (GN.set hgW2 hgw _ _) (heap_set' hx 1 _) (hp_set hgn.symm hy2) fun W3 hgW3 hx3 hy3 => ?_
  refine wp_list_O (fun w_ => w_ = W3) GN (fun k_ v_ w_ => match k_ with
      | 0 => v_ = .agg (insA ⟨4, (r : Int), r1, r2, r3, rm, c, sz, i, ui, us, wd⟩)
      | 1 => v_ = .agg (insA ⟨4, (r : Int), r1, r2, r3, rm, c, sz, i, ui, us, wd⟩)
      | 2 => v_ = .bool true
      | _ => v_ = .bool true) ?_ ?_ GN.refl ?_ ?_
  · rfl
  · intro k_ v_ w_ w2_ h1 hg
    split at h1 <;> exact h1
  · intro vals
    show wpO _ _ _ _ _ _ 0 (_ :: _) _
    refine wpO_cons (oop (Instr.loadAt 25 (.pointer (some ⟨g, 0, none⟩))) (.agg (insA ⟨4, (r : Int), r1, r2, r3, rm, c, sz, i, ui, us, wd⟩)) GN.refl fun w_ hJ hd => ?_) ?_
    · exact ⟨by kernel_rfl, by kernel_rfl, (by rw [hJ]; exact run_loadRow hx3), rfl⟩
    refine wpO_cons (oop (Instr.loadAt 25 (.pointer (some ⟨g2, 0, none⟩))) (.agg (insA ⟨4, (r : Int), r1, r2, r3, rm, c, sz, i, ui, us, wd⟩)) GN.refl fun w_ hJ hd => ?_) ?_
    · exact ⟨by kernel_rfl, by kernel_rfl, (by rw [hJ]; exact run_loadRow hy3), rfl⟩
    refine wpO_cons (oop ((do eqGuard .eql 25 (.tmp 85) (.tmp 86) (.agg (insA ⟨4, (r : Int), r1, r2, r3, rm, c, sz, i, ui, us, wd⟩)) (.agg (insA ⟨4, (r : Int), r1, r2, r3, rm, c, sz, i, ui, us, wd⟩)); binOp .eql 25 (.agg (insA ⟨4, (r : Int), r1, r2, r3, rm, c, sz, i, ui, us, wd⟩)) (.agg (insA ⟨4, (r : Int), r1, r2, r3, rm, c, sz, i, ui, us, wd⟩)))) (.bool true) GN.refl fun w_ hJ hd => ?_) ?_
    · have e0 : vals 0 = _ := hd 0 (by decide)
      have e1 : vals 1 = _ := hd 1 (by decide)
      rw [e0, e1]
      exact ⟨by kernel_rfl, by kernel_rfl, eq_same (unhide HW) w_, rfl⟩
    refine wpO_cons (oval (.bool true) GN.refl fun w_ hJ hd => ?_) wpO_nil
    · have e2 : vals 2 = _ := hd 2 (by decide)
      rw [e2]
      exact ⟨by kernel_rfl, by kernel_rfl, rfl⟩
  intro vals w_ hJ hf
  have e0 : vals 0 = _ := hf 0 (by decide)
  have e1 : vals 1 = _ := hf 1 (by decide)
  have e2 : vals 2 = _ := hf 2 (by decide)
  have e3 : vals 3 = _ := hf 3 (by decide)
  simp only [fillG, Nat.zero_add, Nat.reduceAdd, e0, e1, e2, e3, Act.put, List.setIfInBounds_toArray, List.set_cons_succ, List.set_cons_zero]
  clear e0 e1 e2 e3 hf
  obtain rfl : W3 = w_ := hJ.symm
  go_wp2
  go_ret
  exact ⟨rfl, hgW3⟩
set_option maxRecDepth 100000 in
set_option maxHeartbeats 4000000 in
theorem turns_l11 (b : Nat) (hb : b < 4294967296) (n : Int) (r : Nat) (hr32 : r < 32) (hr : bits .and .i64 n 31 = (r : Int)) (u : Nat) (hA : bits .andNot .u32 (b : Int) 3968 = (u : Int)) (v : Nat) (hO : bits .or .u32 (u : Int) ((r : Int) * 128) = (v : Int)) (hv : v < 4294967296) (q : Nat) (hq32 : q < 32) (hQ : bits .and .u32 ((b : Int) / 128) 31 = (q : Int)) (r1 r2 r3 rm c sz i : Int) (ui us wd : Bool) (hx0 : decN b = ⟨11, (q : Int), r1, r2, r3, rm, c, sz, i, ui, us, wd⟩) (hy0 : decN v = ⟨11, (r : Int), r1, r2, r3, rm, c, sz, i, ui, us, wd⟩) (w : World) : Calls Try.prog 7 #[.int .u32 b, .int .i64 n] w fun e w' => e = .returned (.bool true) ∧ GN w w' := by
  have HW : Hid (WFI ⟨11, (r : Int), r1, r2, r3, rm, c, sz, i, ui, us, wd⟩) := hy0 ▸ dec_wf v
  go_enter Try.func7, Try.ntmps7
  go_upto_region 4 with (first | (go_at_call 9; refine (awake_any _).mono ?_; rintro _ w9 ⟨rfl, hq9⟩) | (go_at_call 10; refine (dec_call hb hx0 _).mono ?_; rintro _ w10 ⟨rfl, hq10⟩))
  refine cutR (w := w) (g := w10.heap.size) (x := #[.int .i64 11, .int .i64 (q : Int), .int .i64 r1, .int .i64 r2, .int .i64 r3, .int .i64 rm, .int .i64 c, .int .i64 sz, .int .i64 i, .bool ui, .bool us, .bool wd]) (GN.alloc (GN.trans hq9 hq10) _) (heap_alloc_last _ _) fun W hgW hx => ?_
  have hgw0 : w.heap.size ≤ w10.heap.size := (GN.trans hq9 hq10).size
  generalize w10.heap.size = g at *
  go_upto_region 6 with (go_at_call 10; refine (dec_call hv hy0 _).mono ?_; rintro _ w11 ⟨rfl, hq11⟩)
  have hx11 := GN.heap hq11 hx
  have hlt := lt_of_heap' hx11
  have hgn : g ≠ w11.heap.size := by omega
  refine cut2 (w := w) (g := g) (g2 := w11.heap.size) (x := #[.int .i64 11, .int .i64 (q : Int), .int .i64 r1, .int .i64 r2, .int .i64 r3, .int .i64 rm, .int .i64 c, .int .i64 sz, .int .i64 i, .bool ui, .bool us, .bool wd]) (y := #[.int .i64 11, .int .i64 (r : Int), .int .i64 r1, .int .i64 r2, .int .i64 r3, .int .i64 rm, .int .i64 c, .int .i64 sz, .int .i64 i, .bool ui, .bool us, .bool wd]) (GN.alloc (GN.trans hgW hq11) _) (hp_alloc hx11) (heap_alloc_last _ _) fun W2 hgW2 hx2 hy2 => ?_
  generalize w11.heap.size = g2 at *
  have hgw : w.heap.size ≤ g := hgw0
  clear hq9 hq10 hq11 hgW hx hx11 hlt
  have hx := hx2
  have W1 := lt_of_heap' hx
  obtain ⟨⟨p0, q0⟩, ⟨p1, q1⟩, ⟨p2, q2⟩, ⟨p3, q3⟩, ⟨p4, q4⟩, ⟨p5, q5⟩, ⟨p6, q6⟩, ⟨p7, q7⟩, ⟨p8, q8⟩, ⟨p9, q9⟩, ⟨p10, q10⟩, ⟨p11, q11⟩⟩ := c12 hx
  go_upto_region 12 with fail
  refine cut2 (w := w) (g := g) (g2 := g2) (x := insA ⟨11, (r : Int), r1, r2, r3, rm, c, sz, i, ui, us, wd⟩) (y := insA ⟨11, (r : Int), r1, r2, r3, rm, c, sz, i, ui, us, wd⟩) (GN.set hgW2 hgw _ _) (heap_set' hx 1 _) (hp_set hgn.symm hy2) fun W3 hgW3 hx3 hy3 => ?_
  refine wp_list_O (fun w_ => w_ = W3) GN (fun k_ v_ w_ => match k_ with
      | 0 => v_ = .agg (insA ⟨11, (r : Int), r1, r2, r3, rm, c, sz, i, ui, us, wd⟩)
      | 1 => v_ = .agg (insA ⟨11, (r : Int), r1, r2, r3, rm, c, sz, i, ui, us, wd⟩)
      | 2 => v_ = .bool true
      | _ => v_ = .bool true) ?_ ?_ GN.refl ?_ ?_
  · rfl
  · intro k_ v_ w_ w2_ h1 hg
    split at h1 <;> exact h1
  · intro vals
    show wpO _ _ _ _ _ _ 0 (_ :: _) _
    refine wpO_cons (oop (Instr.loadAt 25 (.pointer (some ⟨g, 0, none⟩))) (.agg (insA ⟨11, (r : Int), r1, r2, r3, rm, c, sz, i, ui, us, wd⟩)) GN.refl fun w_ hJ hd => ?_) ?_
    · exact ⟨by kernel_rfl, by kernel_rfl, (by rw [hJ]; exact run_loadRow hx3), rfl⟩
    refine wpO_cons (oop (Instr.loadAt 25 (.pointer (some ⟨g2, 0, none⟩))) (.agg (insA ⟨11, (r : Int), r1, r2, r3, rm, c, sz, i, ui, us, wd⟩)) GN.refl fun w_ hJ hd => ?_) ?_
    · exact ⟨by kernel_rfl, by kernel_rfl, (by rw [hJ]; exact run_loadRow hy3), rfl⟩
    refine wpO_cons (oop ((do eqGuard .eql 25 (.tmp 85) (.tmp 86) (.agg (insA ⟨11, (r : Int), r1, r2, r3, rm, c, sz, i, ui, us, wd⟩)) (.agg (insA ⟨11, (r : Int), r1, r2, r3, rm, c, sz, i, ui, us, wd⟩)); binOp .eql 25 (.agg (insA ⟨11, (r : Int), r1, r2, r3, rm, c, sz, i, ui, us, wd⟩)) (.agg (insA ⟨11, (r : Int), r1, r2, r3, rm, c, sz, i, ui, us, wd⟩)))) (.bool true) GN.refl fun w_ hJ hd => ?_) ?_
    · have e0 : vals 0 = _ := hd 0 (by decide)
      have e1 : vals 1 = _ := hd 1 (by decide)
      rw [e0, e1]
      exact ⟨by kernel_rfl, by kernel_rfl, eq_same (unhide HW) w_, rfl⟩
    refine wpO_cons (oval (.bool true) GN.refl fun w_ hJ hd => ?_) wpO_nil
    · have e2 : vals 2 = _ := hd 2 (by decide)
      rw [e2]
      exact ⟨by kernel_rfl, by kernel_rfl, rfl⟩
  intro vals w_ hJ hf
  have e0 : vals 0 = _ := hf 0 (by decide)
  have e1 : vals 1 = _ := hf 1 (by decide)
  have e2 : vals 2 = _ := hf 2 (by decide)
  have e3 : vals 3 = _ := hf 3 (by decide)
  simp only [fillG, Nat.zero_add, Nat.reduceAdd, e0, e1, e2, e3, Act.put, List.setIfInBounds_toArray, List.set_cons_succ, List.set_cons_zero]
  clear e0 e1 e2 e3 hf
  obtain rfl : W3 = w_ := hJ.symm
  go_wp2
  go_ret
  exact ⟨rfl, hgW3⟩
set_option maxRecDepth 100000 in
set_option maxHeartbeats 4000000 in
theorem turns_sum (b : Nat) (hb : b < 4294967296) (n : Int) (r : Nat) (hr32 : r < 32) (hr : bits .and .i64 n 31 = (r : Int)) (u : Nat) (hA : bits .andNot .u32 (b : Int) 3968 = (u : Int)) (v : Nat) (hO : bits .or .u32 (u : Int) ((r : Int) * 128) = (v : Int)) (hv : v < 4294967296) (k : Int) (q : Nat) (hq32 : q < 32) (hQ : bits .and .u32 ((b : Int) / 128) 31 = (q : Int)) (r1 r2 r3 rm c sz i : Int) (ui us wd : Bool) (hk : 13 ≤ k ∧ k ≤ 30) (hx0 : decN b = ⟨k, (q : Int), r1, r2, r3, rm, c, sz, i, ui, us, wd⟩) (hy0 : decN v = ⟨k, (r : Int), r1, r2, r3, rm, c, sz, i, ui, us, wd⟩) (w : World) : Calls Try.prog 7 #[.int .u32 b, .int .i64 n] w fun e w' => e = .returned (.bool true) ∧ GN w w' := by
  have HW : Hid (WFI ⟨k, (r : Int), r1, r2, r3, rm, c, sz, i, ui, us, wd⟩) := hy0 ▸ dec_wf v
  have k1 := ne_b (show k ≠ 1 by omega)
  have k2 := ne_b (show k ≠ 2 by omega)
  have k3 := ne_b (show k ≠ 3 by omega)
  have k4 := ne_b (show k ≠ 4 by omega)
  have k11 := ne_b (show k ≠ 11 by omega)
  have d1 : decide (13 ≤ k) = true := decide_eq_true (by omega)
  have d2 : decide (k ≤ 30) = true := decide_eq_true (by omega)
  clear hk
  go_enter Try.func7, Try.ntmps7
  go_upto_region 4 with (first | (go_at_call 9; refine (awake_any _).mono ?_; rintro _ w9 ⟨rfl, hq9⟩) | (go_at_call 10; refine (dec_call hb hx0 _).mono ?_; rintro _ w10 ⟨rfl, hq10⟩))
  refine cutR (w := w) (g := w10.heap.size) (x := #[.int .i64 k, .int .i64 (q : Int), .int .i64 r1, .int .i64 r2, .int .i64 r3, .int .i64 rm, .int .i64 c, .int .i64 sz, .int .i64 i, .bool ui, .bool us, .bool wd]) (GN.alloc (GN.trans hq9 hq10) _) (heap_alloc_last _ _) fun W hgW hx => ?_
  have hgw0 : w.heap.size ≤ w10.heap.size := (GN.trans hq9 hq10).size
  generalize w10.heap.size = g at *
  go_upto_region 6 with (go_at_call 10; refine (dec_call hv hy0 _).mono ?_; rintro _ w11 ⟨rfl, hq11⟩)
  have hx11 := GN.heap hq11 hx
  have hlt := lt_of_heap' hx11
  have hgn : g ≠ w11.heap.size := by omega
  refine cut2 (w := w) (g := g) (g2 := w11.heap.size) (x := #[.int .i64 k, .int .i64 (q : Int), .int .i64 r1, .int .i64 r2, .int .i64 r3, .int .i64 rm, .int .i64 c, .int .i64 sz, .int .i64 i, .bool ui, .bool us, .bool wd]) (y := #[.int .i64 k, .int .i64 (r : Int), .int .i64 r1, .int .i64 r2, .int .i64 r3, .int .i64 rm, .int .i64 c, .int .i64 sz, .int .i64 i, .bool ui, .bool us, .bool wd]) (GN.alloc (GN.trans hgW hq11) _) (hp_alloc hx11) (heap_alloc_last _ _) fun W2 hgW2 hx2 hy2 => ?_
  generalize w11.heap.size = g2 at *
  have hgw : w.heap.size ≤ g := hgw0
  clear hq9 hq10 hq11 hgW hx hx11 hlt
  have hx := hx2
  have W1 := lt_of_heap' hx
  obtain ⟨⟨p0, q0⟩, ⟨p1, q1⟩, ⟨p2, q2⟩, ⟨p3, q3⟩, ⟨p4, q4⟩, ⟨p5, q5⟩, ⟨p6, q6⟩, ⟨p7, q7⟩, ⟨p8, q8⟩, ⟨p9, q9⟩, ⟨p10, q10⟩, ⟨p11, q11⟩⟩ := c12 hx
  go_upto_region 12 with fail
  refine cut2 (w := w) (g := g) (g2 := g2) (x := insA ⟨k, (r : Int), r1, r2, r3, rm, c, sz, i, ui, us, wd⟩) (y := insA ⟨k, (r : Int), r1, r2, r3, rm, c, sz, i, ui, us, wd⟩) (GN.set hgW2 hgw _ _) (heap_set' hx 1 _) (hp_set hgn.symm hy2) fun W3 hgW3 hx3 hy3 => ?_
  refine wp_list_O (fun w_ => w_ = W3) GN (fun k_ v_ w_ => match k_ with
      | 0 => v_ = .agg (insA ⟨k, (r : Int), r1, r2, r3, rm, c, sz, i, ui, us, wd⟩)
      | 1 => v_ = .agg (insA ⟨k, (r : Int), r1, r2, r3, rm, c, sz, i, ui, us, wd⟩)
      | 2 => v_ = .bool true
      | _ => v_ = .bool true) ?_ ?_ GN.refl ?_ ?_
  · rfl
  · intro k_ v_ w_ w2_ h1 hg
    split at h1 <;> exact h1
  · intro vals
    show wpO _ _ _ _ _ _ 0 (_ :: _) _
    refine wpO_cons (oop (Instr.loadAt 25 (.pointer (some ⟨g, 0, none⟩))) (.agg (insA ⟨k, (r : Int), r1, r2, r3, rm, c, sz, i, ui, us, wd⟩)) GN.refl fun w_ hJ hd => ?_) ?_
    · exact ⟨by kernel_rfl, by kernel_rfl, (by rw [hJ]; exact run_loadRow hx3), rfl⟩
    refine wpO_cons (oop (Instr.loadAt 25 (.pointer (some ⟨g2, 0, none⟩))) (.agg (insA ⟨k, (r : Int), r1, r2, r3, rm, c, sz, i, ui, us, wd⟩)) GN.refl fun w_ hJ hd => ?_) ?_
    · exact ⟨by kernel_rfl, by kernel_rfl, (by rw [hJ]; exact run_loadRow hy3), rfl⟩
    refine wpO_cons (oop ((do eqGuard .eql 25 (.tmp 85) (.tmp 86) (.agg (insA ⟨k, (r : Int), r1, r2, r3, rm, c, sz, i, ui, us, wd⟩)) (.agg (insA ⟨k, (r : Int), r1, r2, r3, rm, c, sz, i, ui, us, wd⟩)); binOp .eql 25 (.agg (insA ⟨k, (r : Int), r1, r2, r3, rm, c, sz, i, ui, us, wd⟩)) (.agg (insA ⟨k, (r : Int), r1, r2, r3, rm, c, sz, i, ui, us, wd⟩)))) (.bool true) GN.refl fun w_ hJ hd => ?_) ?_
    · have e0 : vals 0 = _ := hd 0 (by decide)
      have e1 : vals 1 = _ := hd 1 (by decide)
      rw [e0, e1]
      exact ⟨by kernel_rfl, by kernel_rfl, eq_same (unhide HW) w_, rfl⟩
    refine wpO_cons (oval (.bool true) GN.refl fun w_ hJ hd => ?_) wpO_nil
    · have e2 : vals 2 = _ := hd 2 (by decide)
      rw [e2]
      exact ⟨by kernel_rfl, by kernel_rfl, rfl⟩
  intro vals w_ hJ hf
  have e0 : vals 0 = _ := hf 0 (by decide)
  have e1 : vals 1 = _ := hf 1 (by decide)
  have e2 : vals 2 = _ := hf 2 (by decide)
  have e3 : vals 3 = _ := hf 3 (by decide)
  simp only [fillG, Nat.zero_add, Nat.reduceAdd, e0, e1, e2, e3, Act.put, List.setIfInBounds_toArray, List.set_cons_succ, List.set_cons_zero]
  clear e0 e1 e2 e3 hf
  obtain rfl : W3 = w_ := hJ.symm
  go_wp2
  go_ret
  exact ⟨rfl, hgW3⟩
set_option maxRecDepth 100000 in
set_option maxHeartbeats 4000000 in
theorem turns_sys (b : Nat) (hb : b < 4294967296) (n : Int) (r : Nat) (hr32 : r < 32) (hr : bits .and .i64 n 31 = (r : Int)) (u : Nat) (hA : bits .andNot .u32 (b : Int) 3968 = (u : Int)) (v : Nat) (hO : bits .or .u32 (u : Int) ((r : Int) * 128) = (v : Int)) (hv : v < 4294967296) (k : Int) (q : Nat) (hq32 : q < 32) (hQ : bits .and .u32 ((b : Int) / 128) 31 = (q : Int)) (r1 r2 r3 rm c sz i : Int) (ui us wd : Bool) (hk : 35 ≤ k ∧ k ≤ 48) (hx0 : decN b = ⟨k, (q : Int), r1, r2, r3, rm, c, sz, i, ui, us, wd⟩) (hy0 : decN v = ⟨k, (r : Int), r1, r2, r3, rm, c, sz, i, ui, us, wd⟩) (w : World) : Calls Try.prog 7 #[.int .u32 b, .int .i64 n] w fun e w' => e = .returned (.bool true) ∧ GN w w' := by
  have HW : Hid (WFI ⟨k, (r : Int), r1, r2, r3, rm, c, sz, i, ui, us, wd⟩) := hy0 ▸ dec_wf v
  have k1 := ne_b (show k ≠ 1 by omega)
  have k2 := ne_b (show k ≠ 2 by omega)
  have k3 := ne_b (show k ≠ 3 by omega)
  have k4 := ne_b (show k ≠ 4 by omega)
  have k11 := ne_b (show k ≠ 11 by omega)
  have d1 : decide (13 ≤ k) = true := decide_eq_true (by omega)
  have d2 : decide (k ≤ 30) = false := decide_eq_false (by omega)
  have d3 : decide (35 ≤ k) = true := decide_eq_true (by omega)
  have d4 : decide (k ≤ 48) = true := decide_eq_true (by omega)
  clear hk
  go_enter Try.func7, Try.ntmps7
  go_upto_region 4 with (first | (go_at_call 9; refine (awake_any _).mono ?_; rintro _ w9 ⟨rfl, hq9⟩) | (go_at_call 10; refine (dec_call hb hx0 _).mono ?_; rintro _ w10 ⟨rfl, hq10⟩))
  refine cutR (w := w) (g := w10.heap.size) (x := #[.int .i64 k, .int .i64 (q : Int), .int .i64 r1, .int .i64 r2, .int .i64 r3, .int .i64 rm, .int .i64 c, .int .i64 sz, .int .i64 i, .bool ui, .bool us, .bool wd]) (GN.alloc (GN.trans hq9 hq10) _) (heap_alloc_last _ _) fun W hgW hx => ?_
  have hgw0 : w.heap.size ≤ w10.heap.size := (GN.trans hq9 hq10).size
  generalize w10.heap.size = g at *
  go_upto_region 6 with (go_at_call 10; refine (dec_call hv hy0 _).mono ?_; rintro _ w11 ⟨rfl, hq11⟩)
  have hx11 := GN.heap hq11 hx
  have hlt := lt_of_heap' hx11
  have hgn : g ≠ w11.heap.size := by omega
  refine cut2 (w := w) (g := g) (g2 := w11.heap.size) (x := #[.int .i64 k, .int .i64 (q : Int), .int .i64 r1, .int .i64 r2, .int .i64 r3, .int .i64 rm, .int .i64 c, .int .i64 sz, .int .i64 i, .bool ui, .bool us, .bool wd]) (y := #[.int .i64 k, .int .i64 (r : Int), .int .i64 r1, .int .i64 r2, .int .i64 r3, .int .i64 rm, .int .i64 c, .int .i64 sz, .int .i64 i, .bool ui, .bool us, .bool wd]) (GN.alloc (GN.trans hgW hq11) _) (hp_alloc hx11) (heap_alloc_last _ _) fun W2 hgW2 hx2 hy2 => ?_
  generalize w11.heap.size = g2 at *
  have hgw : w.heap.size ≤ g := hgw0
  clear hq9 hq10 hq11 hgW hx hx11 hlt
  have hx := hx2
  have W1 := lt_of_heap' hx
  obtain ⟨⟨p0, q0⟩, ⟨p1, q1⟩, ⟨p2, q2⟩, ⟨p3, q3⟩, ⟨p4, q4⟩, ⟨p5, q5⟩, ⟨p6, q6⟩, ⟨p7, q7⟩, ⟨p8, q8⟩, ⟨p9, q9⟩, ⟨p10, q10⟩, ⟨p11, q11⟩⟩ := c12 hx
  go_upto_region 12 with fail
  refine cut2 (w := w) (g := g) (g2 := g2) (x := insA ⟨k, (r : Int), r1, r2, r3, rm, c, sz, i, ui, us, wd⟩) (y := insA ⟨k, (r : Int), r1, r2, r3, rm, c, sz, i, ui, us, wd⟩) (GN.set hgW2 hgw _ _) (heap_set' hx 1 _) (hp_set hgn.symm hy2) fun W3 hgW3 hx3 hy3 => ?_
  refine wp_list_O (fun w_ => w_ = W3) GN (fun k_ v_ w_ => match k_ with
      | 0 => v_ = .agg (insA ⟨k, (r : Int), r1, r2, r3, rm, c, sz, i, ui, us, wd⟩)
      | 1 => v_ = .agg (insA ⟨k, (r : Int), r1, r2, r3, rm, c, sz, i, ui, us, wd⟩)
      | 2 => v_ = .bool true
      | _ => v_ = .bool true) ?_ ?_ GN.refl ?_ ?_
  · rfl
  · intro k_ v_ w_ w2_ h1 hg
    split at h1 <;> exact h1
  · intro vals
    show wpO _ _ _ _ _ _ 0 (_ :: _) _
    refine wpO_cons (oop (Instr.loadAt 25 (.pointer (some ⟨g, 0, none⟩))) (.agg (insA ⟨k, (r : Int), r1, r2, r3, rm, c, sz, i, ui, us, wd⟩)) GN.refl fun w_ hJ hd => ?_) ?_
    · exact ⟨by kernel_rfl, by kernel_rfl, (by rw [hJ]; exact run_loadRow hx3), rfl⟩
    refine wpO_cons (oop (Instr.loadAt 25 (.pointer (some ⟨g2, 0, none⟩))) (.agg (insA ⟨k, (r : Int), r1, r2, r3, rm, c, sz, i, ui, us, wd⟩)) GN.refl fun w_ hJ hd => ?_) ?_
    · exact ⟨by kernel_rfl, by kernel_rfl, (by rw [hJ]; exact run_loadRow hy3), rfl⟩
    refine wpO_cons (oop ((do eqGuard .eql 25 (.tmp 85) (.tmp 86) (.agg (insA ⟨k, (r : Int), r1, r2, r3, rm, c, sz, i, ui, us, wd⟩)) (.agg (insA ⟨k, (r : Int), r1, r2, r3, rm, c, sz, i, ui, us, wd⟩)); binOp .eql 25 (.agg (insA ⟨k, (r : Int), r1, r2, r3, rm, c, sz, i, ui, us, wd⟩)) (.agg (insA ⟨k, (r : Int), r1, r2, r3, rm, c, sz, i, ui, us, wd⟩)))) (.bool true) GN.refl fun w_ hJ hd => ?_) ?_
    · have e0 : vals 0 = _ := hd 0 (by decide)
      have e1 : vals 1 = _ := hd 1 (by decide)
      rw [e0, e1]
      exact ⟨by kernel_rfl, by kernel_rfl, eq_same (unhide HW) w_, rfl⟩
    refine wpO_cons (oval (.bool true) GN.refl fun w_ hJ hd => ?_) wpO_nil
    · have e2 : vals 2 = _ := hd 2 (by decide)
      rw [e2]
      exact ⟨by kernel_rfl, by kernel_rfl, rfl⟩
  intro vals w_ hJ hf
  have e0 : vals 0 = _ := hf 0 (by decide)
  have e1 : vals 1 = _ := hf 1 (by decide)
  have e2 : vals 2 = _ := hf 2 (by decide)
  have e3 : vals 3 = _ := hf 3 (by decide)
  simp only [fillG, Nat.zero_add, Nat.reduceAdd, e0, e1, e2, e3, Act.put, List.setIfInBounds_toArray, List.set_cons_succ, List.set_cons_zero]
  clear e0 e1 e2 e3 hf
  obtain rfl : W3 = w_ := hJ.symm
  go_wp2
  go_ret
  exact ⟨rfl, hgW3⟩
set_option maxRecDepth 100000 in
set_option maxHeartbeats 4000000 in
theorem turns_flo (b : Nat) (hb : b < 4294967296) (n : Int) (r : Nat) (hr32 : r < 32) (hr : bits .and .i64 n 31 = (r : Int)) (u : Nat) (hA : bits .andNot .u32 (b : Int) 3968 = (u : Int)) (v : Nat) (hO : bits .or .u32 (u : Int) ((r : Int) * 128) = (v : Int)) (hv : v < 4294967296) (k : Int) (q : Nat) (hq32 : q < 32) (hQ : bits .and .u32 ((b : Int) / 128) 31 = (q : Int)) (r1 r2 r3 rm c sz i : Int) (ui us wd : Bool) (hk : 53 ≤ k ∧ k ≠ 54) (hx0 : decN b = ⟨k, (q : Int), r1, r2, r3, rm, c, sz, i, ui, us, wd⟩) (hy0 : decN v = ⟨k, (r : Int), r1, r2, r3, rm, c, sz, i, ui, us, wd⟩) (w : World) : Calls Try.prog 7 #[.int .u32 b, .int .i64 n] w fun e w' => e = .returned (.bool true) ∧ GN w w' := by
  have HW : Hid (WFI ⟨k, (r : Int), r1, r2, r3, rm, c, sz, i, ui, us, wd⟩) := hy0 ▸ dec_wf v
  have k1 := ne_b (show k ≠ 1 by omega)
  have k2 := ne_b (show k ≠ 2 by omega)
  have k3 := ne_b (show k ≠ 3 by omega)
  have k4 := ne_b (show k ≠ 4 by omega)
  have k11 := ne_b (show k ≠ 11 by omega)
  have k54 := ne_t (show k ≠ 54 by omega)
  have d1 : decide (13 ≤ k) = true := decide_eq_true (by omega)
  have d2 : decide (k ≤ 30) = false := decide_eq_false (by omega)
  have d3 : decide (35 ≤ k) = true := decide_eq_true (by omega)
  have d4 : decide (k ≤ 48) = false := decide_eq_false (by omega)
  have d5 : decide (53 ≤ k) = true := decide_eq_true (by omega)
  clear hk
  go_enter Try.func7, Try.ntmps7
  go_upto_region 4 with (first | (go_at_call 9; refine (awake_any _).mono ?_; rintro _ w9 ⟨rfl, hq9⟩) | (go_at_call 10; refine (dec_call hb hx0 _).mono ?_; rintro _ w10 ⟨rfl, hq10⟩))
  refine cutR (w := w) (g := w10.heap.size) (x := #[.int .i64 k, .int .i64 (q : Int), .int .i64 r1, .int .i64 r2, .int .i64 r3, .int .i64 rm, .int .i64 c, .int .i64 sz, .int .i64 i, .bool ui, .bool us, .bool wd]) (GN.alloc (GN.trans hq9 hq10) _) (heap_alloc_last _ _) fun W hgW hx => ?_
  have hgw0 : w.heap.size ≤ w10.heap.size := (GN.trans hq9 hq10).size
  generalize w10.heap.size = g at *
  go_upto_region 6 with (go_at_call 10; refine (dec_call hv hy0 _).mono ?_; rintro _ w11 ⟨rfl, hq11⟩)
  have hx11 := GN.heap hq11 hx
  have hlt := lt_of_heap' hx11
  have hgn : g ≠ w11.heap.size := by omega
  refine cut2 (w := w) (g := g) (g2 := w11.heap.size) (x := #[.int .i64 k, .int .i64 (q : Int), .int .i64 r1, .int .i64 r2, .int .i64 r3, .int .i64 rm, .int .i64 c, .int .i64 sz, .int .i64 i, .bool ui, .bool us, .bool wd]) (y := #[.int .i64 k, .int .i64 (r : Int), .int .i64 r1, .int .i64 r2, .int .i64 r3, .int .i64 rm, .int .i64 c, .int .i64 sz, .int .i64 i, .bool ui, .bool us, .bool wd]) (GN.alloc (GN.trans hgW hq11) _) (hp_alloc hx11) (heap_alloc_last _ _) fun W2 hgW2 hx2 hy2 => ?_
  generalize w11.heap.size = g2 at *
  have hgw : w.heap.size ≤ g := hgw0
  clear hq9 hq10 hq11 hgW hx hx11 hlt
  have hx := hx2
  have W1 := lt_of_heap' hx
  obtain ⟨⟨p0, q0⟩, ⟨p1, q1⟩, ⟨p2, q2⟩, ⟨p3, q3⟩, ⟨p4, q4⟩, ⟨p5, q5⟩, ⟨p6, q6⟩, ⟨p7, q7⟩, ⟨p8, q8⟩, ⟨p9, q9⟩, ⟨p10, q10⟩, ⟨p11, q11⟩⟩ := c12 hx
  go_upto_region 12 with fail
  refine cut2 (w := w) (g := g) (g2 := g2) (x := insA ⟨k, (r : Int), r1, r2, r3, rm, c, sz, i, ui, us, wd⟩) (y := insA ⟨k, (r : Int), r1, r2, r3, rm, c, sz, i, ui, us, wd⟩) (GN.set hgW2 hgw _ _) (heap_set' hx 1 _) (hp_set hgn.symm hy2) fun W3 hgW3 hx3 hy3 => ?_
  refine wp_list_O (fun w_ => w_ = W3) GN (fun k_ v_ w_ => match k_ with
      | 0 => v_ = .agg (insA ⟨k, (r : Int), r1, r2, r3, rm, c, sz, i, ui, us, wd⟩)
      | 1 => v_ = .agg (insA ⟨k, (r : Int), r1, r2, r3, rm, c, sz, i, ui, us, wd⟩)
      | 2 => v_ = .bool true
      | _ => v_ = .bool true) ?_ ?_ GN.refl ?_ ?_
  · rfl
  · intro k_ v_ w_ w2_ h1 hg
    split at h1 <;> exact h1
  · intro vals
    show wpO _ _ _ _ _ _ 0 (_ :: _) _
    refine wpO_cons (oop (Instr.loadAt 25 (.pointer (some ⟨g, 0, none⟩))) (.agg (insA ⟨k, (r : Int), r1, r2, r3, rm, c, sz, i, ui, us, wd⟩)) GN.refl fun w_ hJ hd => ?_) ?_
    · exact ⟨by kernel_rfl, by kernel_rfl, (by rw [hJ]; exact run_loadRow hx3), rfl⟩
    refine wpO_cons (oop (Instr.loadAt 25 (.pointer (some ⟨g2, 0, none⟩))) (.agg (insA ⟨k, (r : Int), r1, r2, r3, rm, c, sz, i, ui, us, wd⟩)) GN.refl fun w_ hJ hd => ?_) ?_
    · exact ⟨by kernel_rfl, by kernel_rfl, (by rw [hJ]; exact run_loadRow hy3), rfl⟩
    refine wpO_cons (oop ((do eqGuard .eql 25 (.tmp 85) (.tmp 86) (.agg (insA ⟨k, (r : Int), r1, r2, r3, rm, c, sz, i, ui, us, wd⟩)) (.agg (insA ⟨k, (r : Int), r1, r2, r3, rm, c, sz, i, ui, us, wd⟩)); binOp .eql 25 (.agg (insA ⟨k, (r : Int), r1, r2, r3, rm, c, sz, i, ui, us, wd⟩)) (.agg (insA ⟨k, (r : Int), r1, r2, r3, rm, c, sz, i, ui, us, wd⟩)))) (.bool true) GN.refl fun w_ hJ hd => ?_) ?_
    · have e0 : vals 0 = _ := hd 0 (by decide)
      have e1 : vals 1 = _ := hd 1 (by decide)
      rw [e0, e1]
      exact ⟨by kernel_rfl, by kernel_rfl, eq_same (unhide HW) w_, rfl⟩
    refine wpO_cons (oval (.bool true) GN.refl fun w_ hJ hd => ?_) wpO_nil
    · have e2 : vals 2 = _ := hd 2 (by decide)
      rw [e2]
      exact ⟨by kernel_rfl, by kernel_rfl, rfl⟩
  intro vals w_ hJ hf
  have e0 : vals 0 = _ := hf 0 (by decide)
  have e1 : vals 1 = _ := hf 1 (by decide)
  have e2 : vals 2 = _ := hf 2 (by decide)
  have e3 : vals 3 = _ := hf 3 (by decide)
  simp only [fillG, Nat.zero_add, Nat.reduceAdd, e0, e1, e2, e3, Act.put, List.setIfInBounds_toArray, List.set_cons_succ, List.set_cons_zero]
  clear e0 e1 e2 e3 hf
  obtain rfl : W3 = w_ := hJ.symm
  go_wp2
  go_ret
  exact ⟨rfl, hgW3⟩
set_option maxRecDepth 100000 in
set_option maxHeartbeats 4000000 in
theorem turns_noa (b : Nat) (hb : b < 4294967296) (n : Int) (r : Nat) (hr32 : r < 32) (hr : bits .and .i64 n 31 = (r : Int)) (u : Nat) (hA : bits .andNot .u32 (b : Int) 3968 = (u : Int)) (v : Nat) (hO : bits .or .u32 (u : Int) ((r : Int) * 128) = (v : Int)) (hv : v < 4294967296) (k : Int) (rd r1 r2 r3 rm c sz i : Int) (ui us wd : Bool) (k_ rd_ r1_ r2_ r3_ rm_ c_ sz_ i_ : Int) (ui_ us_ wd_ : Bool) (hk : k < 13 ∧ k ≠ 1 ∧ k ≠ 2 ∧ k ≠ 3 ∧ k ≠ 4 ∧ k ≠ 11) (hx0 : decN b = ⟨k, rd, r1, r2, r3, rm, c, sz, i, ui, us, wd⟩) (hy0 : decN v = ⟨k_, rd_, r1_, r2_, r3_, rm_, c_, sz_, i_, ui_, us_, wd_⟩) (w : World) : Calls Try.prog 7 #[.int .u32 b, .int .i64 n] w fun e w' => e = .returned (.bool true) ∧ GN w w' := by
  have k1 := ne_b (show k ≠ 1 by omega)
  have k2 := ne_b (show k ≠ 2 by omega)
  have k3 := ne_b (show k ≠ 3 by omega)
  have k4 := ne_b (show k ≠ 4 by omega)
  have k11 := ne_b (show k ≠ 11 by omega)
  have d1 : decide (13 ≤ k) = false := decide_eq_false (by omega)
  have d2 : decide (35 ≤ k) = false := decide_eq_false (by omega)
  have d3 : decide (53 ≤ k) = false := decide_eq_false (by omega)
  clear hk
  go_enter Try.func7, Try.ntmps7
  go_upto_region 4 with (first | (go_at_call 9; refine (awake_any _).mono ?_; rintro _ w9 ⟨rfl, hq9⟩) | (go_at_call 10; refine (dec_call hb hx0 _).mono ?_; rintro _ w10 ⟨rfl, hq10⟩))
  refine cutR (w := w) (g := w10.heap.size) (x := #[.int .i64 k, .int .i64 rd, .int .i64 r1, .int .i64 r2, .int .i64 r3, .int .i64 rm, .int .i64 c, .int .i64 sz, .int .i64 i, .bool ui, .bool us, .bool wd]) (GN.alloc (GN.trans hq9 hq10) _) (heap_alloc_last _ _) fun W hgW hx => ?_
  generalize w10.heap.size = g at *
  go_upto_region 6 with (go_at_call 10; refine (dec_call hv hy0 _).mono ?_; rintro _ w11 ⟨rfl, hq11⟩)
  have hx11 := GN.heap hq11 hx
  have hlt := lt_of_heap' hx11
  have hgn : g ≠ w11.heap.size := by omega
  refine cut2 (w := w) (g := g) (g2 := w11.heap.size) (x := #[.int .i64 k, .int .i64 rd, .int .i64 r1, .int .i64 r2, .int .i64 r3, .int .i64 rm, .int .i64 c, .int .i64 sz, .int .i64 i, .bool ui, .bool us, .bool wd]) (y := #[.int .i64 k_, .int .i64 rd_, .int .i64 r1_, .int .i64 r2_, .int .i64 r3_, .int .i64 rm_, .int .i64 c_, .int .i64 sz_, .int .i64 i_, .bool ui_, .bool us_, .bool wd_]) (GN.alloc (GN.trans hgW hq11) _) (hp_alloc hx11) (heap_alloc_last _ _) fun W2 hgW2 hx2 hy2 => ?_
  generalize w11.heap.size = g2 at *
  clear hq9 hq10 hq11 hgW hx hx11 hlt
  have hx := hx2
  have W1 := lt_of_heap' hx
  obtain ⟨⟨p0, q0⟩, ⟨p1, q1⟩, ⟨p2, q2⟩, ⟨p3, q3⟩, ⟨p4, q4⟩, ⟨p5, q5⟩, ⟨p6, q6⟩, ⟨p7, q7⟩, ⟨p8, q8⟩, ⟨p9, q9⟩, ⟨p10, q10⟩, ⟨p11, q11⟩⟩ := c12 hx
  go_wp2
  go_ret
  exact ⟨rfl, hgW2⟩
set_option maxRecDepth 100000 in
set_option maxHeartbeats 4000000 in
theorem turns_nob (b : Nat) (hb : b < 4294967296) (n : Int) (r : Nat) (hr32 : r < 32) (hr : bits .and .i64 n 31 = (r : Int)) (u : Nat) (hA : bits .andNot .u32 (b : Int) 3968 = (u : Int)) (v : Nat) (hO : bits .or .u32 (u : Int) ((r : Int) * 128) = (v : Int)) (hv : v < 4294967296) (k : Int) (rd r1 r2 r3 rm c sz i : Int) (ui us wd : Bool) (k_ rd_ r1_ r2_ r3_ rm_ c_ sz_ i_ : Int) (ui_ us_ wd_ : Bool) (hk : 31 ≤ k ∧ k < 35) (hx0 : decN b = ⟨k, rd, r1, r2, r3, rm, c, sz, i, ui, us, wd⟩) (hy0 : decN v = ⟨k_, rd_, r1_, r2_, r3_, rm_, c_, sz_, i_, ui_, us_, wd_⟩) (w : World) : Calls Try.prog 7 #[.int .u32 b, .int .i64 n] w fun e w' => e = .returned (.bool true) ∧ GN w w' := by
  have k1 := ne_b (show k ≠ 1 by omega)
  have k2 := ne_b (show k ≠ 2 by omega)
  have k3 := ne_b (show k ≠ 3 by omega)
  have k4 := ne_b (show k ≠ 4 by omega)
  have k11 := ne_b (show k ≠ 11 by omega)
  have d1 : decide (13 ≤ k) = true := decide_eq_true (by omega)
  have d2 : decide (k ≤ 30) = false := decide_eq_false (by omega)
  have d3 : decide (35 ≤ k) = false := decide_eq_false (by omega)
  have d4 : decide (53 ≤ k) = false := decide_eq_false (by omega)
  clear hk
  go_enter Try.func7, Try.ntmps7
  go_upto_region 4 with (first | (go_at_call 9; refine (awake_any _).mono ?_; rintro _ w9 ⟨rfl, hq9⟩) | (go_at_call 10; refine (dec_call hb hx0 _).mono ?_; rintro _ w10 ⟨rfl, hq10⟩))
  refine cutR (w := w) (g := w10.heap.size) (x := #[.int .i64 k, .int .i64 rd, .int .i64 r1, .int .i64 r2, .int .i64 r3, .int .i64 rm, .int .i64 c, .int .i64 sz, .int .i64 i, .bool ui, .bool us, .bool wd]) (GN.alloc (GN.trans hq9 hq10) _) (heap_alloc_last _ _) fun W hgW hx => ?_
  generalize w10.heap.size = g at *
  go_upto_region 6 with (go_at_call 10; refine (dec_call hv hy0 _).mono ?_; rintro _ w11 ⟨rfl, hq11⟩)
  have hx11 := GN.heap hq11 hx
  have hlt := lt_of_heap' hx11
  have hgn : g ≠ w11.heap.size := by omega
  refine cut2 (w := w) (g := g) (g2 := w11.heap.size) (x := #[.int .i64 k, .int .i64 rd, .int .i64 r1, .int .i64 r2, .int .i64 r3, .int .i64 rm, .int .i64 c, .int .i64 sz, .int .i64 i, .bool ui, .bool us, .bool wd]) (y := #[.int .i64 k_, .int .i64 rd_, .int .i64 r1_, .int .i64 r2_, .int .i64 r3_, .int .i64 rm_, .int .i64 c_, .int .i64 sz_, .int .i64 i_, .bool ui_, .bool us_, .bool wd_]) (GN.alloc (GN.trans hgW hq11) _) (hp_alloc hx11) (heap_alloc_last _ _) fun W2 hgW2 hx2 hy2 => ?_
  generalize w11.heap.size = g2 at *
  clear hq9 hq10 hq11 hgW hx hx11 hlt
  have hx := hx2
  have W1 := lt_of_heap' hx
  obtain ⟨⟨p0, q0⟩, ⟨p1, q1⟩, ⟨p2, q2⟩, ⟨p3, q3⟩, ⟨p4, q4⟩, ⟨p5, q5⟩, ⟨p6, q6⟩, ⟨p7, q7⟩, ⟨p8, q8⟩, ⟨p9, q9⟩, ⟨p10, q10⟩, ⟨p11, q11⟩⟩ := c12 hx
  go_wp2
  go_ret
  exact ⟨rfl, hgW2⟩
set_option maxRecDepth 100000 in
set_option maxHeartbeats 4000000 in
theorem turns_noc (b : Nat) (hb : b < 4294967296) (n : Int) (r : Nat) (hr32 : r < 32) (hr : bits .and .i64 n 31 = (r : Int)) (u : Nat) (hA : bits .andNot .u32 (b : Int) 3968 = (u : Int)) (v : Nat) (hO : bits .or .u32 (u : Int) ((r : Int) * 128) = (v : Int)) (hv : v < 4294967296) (k : Int) (rd r1 r2 r3 rm c sz i : Int) (ui us wd : Bool) (k_ rd_ r1_ r2_ r3_ rm_ c_ sz_ i_ : Int) (ui_ us_ wd_ : Bool) (hk : 49 ≤ k ∧ k < 53) (hx0 : decN b = ⟨k, rd, r1, r2, r3, rm, c, sz, i, ui, us, wd⟩) (hy0 : decN v = ⟨k_, rd_, r1_, r2_, r3_, rm_, c_, sz_, i_, ui_, us_, wd_⟩) (w : World) : Calls Try.prog 7 #[.int .u32 b, .int .i64 n] w fun e w' => e = .returned (.bool true) ∧ GN w w' := by
  have k1 := ne_b (show k ≠ 1 by omega)
  have k2 := ne_b (show k ≠ 2 by omega)
  have k3 := ne_b (show k ≠ 3 by omega)
  have k4 := ne_b (show k ≠ 4 by omega)
  have k11 := ne_b (show k ≠ 11 by omega)
  have d1 : decide (13 ≤ k) = true := decide_eq_true (by omega)
  have d2 : decide (k ≤ 30) = false := decide_eq_false (by omega)
  have d3 : decide (35 ≤ k) = true := decide_eq_true (by omega)
  have d4 : decide (k ≤ 48) = false := decide_eq_false (by omega)
  have d5 : decide (53 ≤ k) = false := decide_eq_false (by omega)
  clear hk
  go_enter Try.func7, Try.ntmps7
  go_upto_region 4 with (first | (go_at_call 9; refine (awake_any _).mono ?_; rintro _ w9 ⟨rfl, hq9⟩) | (go_at_call 10; refine (dec_call hb hx0 _).mono ?_; rintro _ w10 ⟨rfl, hq10⟩))
  refine cutR (w := w) (g := w10.heap.size) (x := #[.int .i64 k, .int .i64 rd, .int .i64 r1, .int .i64 r2, .int .i64 r3, .int .i64 rm, .int .i64 c, .int .i64 sz, .int .i64 i, .bool ui, .bool us, .bool wd]) (GN.alloc (GN.trans hq9 hq10) _) (heap_alloc_last _ _) fun W hgW hx => ?_
  generalize w10.heap.size = g at *
  go_upto_region 6 with (go_at_call 10; refine (dec_call hv hy0 _).mono ?_; rintro _ w11 ⟨rfl, hq11⟩)
  have hx11 := GN.heap hq11 hx
  have hlt := lt_of_heap' hx11
  have hgn : g ≠ w11.heap.size := by omega
  refine cut2 (w := w) (g := g) (g2 := w11.heap.size) (x := #[.int .i64 k, .int .i64 rd, .int .i64 r1, .int .i64 r2, .int .i64 r3, .int .i64 rm, .int .i64 c, .int .i64 sz, .int .i64 i, .bool ui, .bool us, .bool wd]) (y := #[.int .i64 k_, .int .i64 rd_, .int .i64 r1_, .int .i64 r2_, .int .i64 r3_, .int .i64 rm_, .int .i64 c_, .int .i64 sz_, .int .i64 i_, .bool ui_, .bool us_, .bool wd_]) (GN.alloc (GN.trans hgW hq11) _) (hp_alloc hx11) (heap_alloc_last _ _) fun W2 hgW2 hx2 hy2 => ?_
  generalize w11.heap.size = g2 at *
  clear hq9 hq10 hq11 hgW hx hx11 hlt
  have hx := hx2
  have W1 := lt_of_heap' hx
  obtain ⟨⟨p0, q0⟩, ⟨p1, q1⟩, ⟨p2, q2⟩, ⟨p3, q3⟩, ⟨p4, q4⟩, ⟨p5, q5⟩, ⟨p6, q6⟩, ⟨p7, q7⟩, ⟨p8, q8⟩, ⟨p9, q9⟩, ⟨p10, q10⟩, ⟨p11, q11⟩⟩ := c12 hx
  go_wp2
  go_ret
  exact ⟨rfl, hgW2⟩
set_option maxRecDepth 100000 in
set_option maxHeartbeats 4000000 in
theorem turns_nod (b : Nat) (hb : b < 4294967296) (n : Int) (r : Nat) (hr32 : r < 32) (hr : bits .and .i64 n 31 = (r : Int)) (u : Nat) (hA : bits .andNot .u32 (b : Int) 3968 = (u : Int)) (v : Nat) (hO : bits .or .u32 (u : Int) ((r : Int) * 128) = (v : Int)) (hv : v < 4294967296) (rd r1 r2 r3 rm c sz i : Int) (ui us wd : Bool) (k_ rd_ r1_ r2_ r3_ rm_ c_ sz_ i_ : Int) (ui_ us_ wd_ : Bool) (hx0 : decN b = ⟨54, rd, r1, r2, r3, rm, c, sz, i, ui, us, wd⟩) (hy0 : decN v = ⟨k_, rd_, r1_, r2_, r3_, rm_, c_, sz_, i_, ui_, us_, wd_⟩) (w : World) : Calls Try.prog 7 #[.int .u32 b, .int .i64 n] w fun e w' => e = .returned (.bool true) ∧ GN w w' := by
  go_enter Try.func7, Try.ntmps7
  go_upto_region 4 with (first | (go_at_call 9; refine (awake_any _).mono ?_; rintro _ w9 ⟨rfl, hq9⟩) | (go_at_call 10; refine (dec_call hb hx0 _).mono ?_; rintro _ w10 ⟨rfl, hq10⟩))
  refine cutR (w := w) (g := w10.heap.size) (x := #[.int .i64 54, .int .i64 rd, .int .i64 r1, .int .i64 r2, .int .i64 r3, .int .i64 rm, .int .i64 c, .int .i64 sz, .int .i64 i, .bool ui, .bool us, .bool wd]) (GN.alloc (GN.trans hq9 hq10) _) (heap_alloc_last _ _) fun W hgW hx => ?_
  generalize w10.heap.size = g at *
  go_upto_region 6 with (go_at_call 10; refine (dec_call hv hy0 _).mono ?_; rintro _ w11 ⟨rfl, hq11⟩)
  have hx11 := GN.heap hq11 hx
  have hlt := lt_of_heap' hx11
  have hgn : g ≠ w11.heap.size := by omega
  refine cut2 (w := w) (g := g) (g2 := w11.heap.size) (x := #[.int .i64 54, .int .i64 rd, .int .i64 r1, .int .i64 r2, .int .i64 r3, .int .i64 rm, .int .i64 c, .int .i64 sz, .int .i64 i, .bool ui, .bool us, .bool wd]) (y := #[.int .i64 k_, .int .i64 rd_, .int .i64 r1_, .int .i64 r2_, .int .i64 r3_, .int .i64 rm_, .int .i64 c_, .int .i64 sz_, .int .i64 i_, .bool ui_, .bool us_, .bool wd_]) (GN.alloc (GN.trans hgW hq11) _) (hp_alloc hx11) (heap_alloc_last _ _) fun W2 hgW2 hx2 hy2 => ?_
  generalize w11.heap.size = g2 at *
  clear hq9 hq10 hq11 hgW hx hx11 hlt
  have hx := hx2
  have W1 := lt_of_heap' hx
  obtain ⟨⟨p0, q0⟩, ⟨p1, q1⟩, ⟨p2, q2⟩, ⟨p3, q3⟩, ⟨p4, q4⟩, ⟨p5, q5⟩, ⟨p6, q6⟩, ⟨p7, q7⟩, ⟨p8, q8⟩, ⟨p9, q9⟩, ⟨p10, q10⟩, ⟨p11, q11⟩⟩ := c12 hx
  go_wp2
  go_ret
  exact ⟨rfl, hgW2⟩
theorem turns_walk (b : Nat) (hb : b < 4294967296) (n : Int) (w : World) : Calls Try.prog 7 #[.int .u32 b, .int .i64 n] w fun e w' => e = .returned (.bool true) ∧ GN w w' := by
  have ha := and64 n 5 (by decide)
  rw [show (2 : Int) ^ 5 - 1 = 31 from rfl, show (2 : Int) ^ 5 = 32 from rfl] at ha
  obtain ⟨r, hr⟩ : ∃ r : Nat, n % 32 = (r : Int) := ⟨(n % 32).toNat, by omega⟩
  rw [hr] at ha
  have hr32 : r < 32 := by omega
  have hQ : bits .and .u32 ((b : Int) / 128) 31 = ((fd b 7 5 : Nat) : Int) := by
    have e := and32_cast (b / 128) 31
    rw [show (31 : Nat) = (2 ^ 5 - 1) % 4294967296 from rfl, and_mask32 _ 5 (by decide)] at e
    exact e.symm
  have ht := tr_dec (b := b) (rd := r) rfl hr32
  have hv : b / 4096 * 4096 + r * 128 + b % 128 < 4294967296 := by omega
  have hA := turn_bits hb
  have hO := turn_or hb hr32
  obtain ⟨v, ev⟩ : ∃ v, b / 4096 * 4096 + r * 128 + b % 128 = v := ⟨_, rfl⟩
  obtain ⟨u, eu⟩ : ∃ u, b / 4096 * 4096 + b % 128 = u := ⟨_, rfl⟩
  rw [ev] at ht hv hO
  rw [eu] at hA hO
  rcases hx : decN b with ⟨k, rd, r1, r2, r3, rm, c, sz, i, ui, us, wd⟩
  by_cases hw : writes k
  · have hw' := hw
    obtain ⟨h1, h2⟩ := ht (by rw [hx]; exact hw)
    rw [hx] at h1 h2
    have h1' : rd = ((fd b 7 5 : Nat) : Int) := h1
    subst h1'
    have hq32 := fd_lt b 7 5
    rcases hw' with rfl | rfl | rfl | rfl | rfl | hk | hk | hk
    · exact turns_l1 b hb n r hr32 ha u hA v hO hv _ hq32 hQ r1 r2 r3 rm c sz i ui us wd hx h2 w
    · exact turns_l2 b hb n r hr32 ha u hA v hO hv _ hq32 hQ r1 r2 r3 rm c sz i ui us wd hx h2 w
    · exact turns_l3 b hb n r hr32 ha u hA v hO hv _ hq32 hQ r1 r2 r3 rm c sz i ui us wd hx h2 w
    · exact turns_l4 b hb n r hr32 ha u hA v hO hv _ hq32 hQ r1 r2 r3 rm c sz i ui us wd hx h2 w
    · exact turns_l11 b hb n r hr32 ha u hA v hO hv _ hq32 hQ r1 r2 r3 rm c sz i ui us wd hx h2 w
    · exact turns_sum b hb n r hr32 ha u hA v hO hv k _ hq32 hQ r1 r2 r3 rm c sz i ui us wd hk hx h2 w
    · exact turns_sys b hb n r hr32 ha u hA v hO hv k _ hq32 hQ r1 r2 r3 rm c sz i ui us wd hk hx h2 w
    · exact turns_flo b hb n r hr32 ha u hA v hO hv k _ hq32 hQ r1 r2 r3 rm c sz i ui us wd hk hx h2 w
  · rcases hy : decN v with ⟨k_, rd_, r1_, r2_, r3_, rm_, c_, sz_, i_, ui_, us_, wd_⟩
    unfold writes at hw
    have hc : (k < 13 ∧ k ≠ 1 ∧ k ≠ 2 ∧ k ≠ 3 ∧ k ≠ 4 ∧ k ≠ 11) ∨ (31 ≤ k ∧ k < 35) ∨ (49 ≤ k ∧ k < 53) ∨ k = 54 := by omega
    rcases hc with hk | hk | hk | rfl
    · exact turns_noa b hb n r hr32 ha u hA v hO hv k rd r1 r2 r3 rm c sz i ui us wd k_ rd_ r1_ r2_ r3_ rm_ c_ sz_ i_ ui_ us_ wd_ hk hx hy w
    · exact turns_nob b hb n r hr32 ha u hA v hO hv k rd r1 r2 r3 rm c sz i ui us wd k_ rd_ r1_ r2_ r3_ rm_ c_ sz_ i_ ui_ us_ wd_ hk hx hy w
    · exact turns_noc b hb n r hr32 ha u hA v hO hv k rd r1 r2 r3 rm c sz i ui us wd k_ rd_ r1_ r2_ r3_ rm_ c_ sz_ i_ ui_ us_ wd_ hk hx hy w
    · exact turns_nod b hb n r hr32 ha u hA v hO hv rd r1 r2 r3 rm c sz i ui us wd k_ rd_ r1_ r2_ r3_ rm_ c_ sz_ i_ ui_ us_ wd_ hx hy w
end Go.Proofs.Ytopbdiekfhikmaa
