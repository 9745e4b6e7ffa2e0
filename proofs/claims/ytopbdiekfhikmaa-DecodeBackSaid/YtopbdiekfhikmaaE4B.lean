/- Layer 3: bits of operations of floats (leaves). -/
import Derived.Test.YtopbdiekfhikmaaE4
namespace Go.Proofs.Ytopbdiekfhikmaa
open Go.RowKit
set_option maxRecDepth 100000 in
set_option maxHeartbeats 4000000 in
theorem flo_56 (rd r1 r2 r3 rm c sz i : Int) (hi : (Lit.int .i64 i).wf = true) (ui us wd : Bool) (w : World) : Calls Try.prog 54 #[.agg #[.int .i64 56, .int .i64 rd, .int .i64 r1, .int .i64 r2, .int .i64 r3, .int .i64 rm, .int .i64 c, .int .i64 sz, .int .i64 i, .bool ui, .bool us, .bool wd]] w fun e w' => e = .returned (.tuple #[.int .u32 ((or32 (or32 (floB sz rd r1 r2) (1 * 134217728)) (putN rm 12 3) : Nat) : Int), .bool true]) ∧ GN w w' := by
  obtain ⟨z, hz⟩ : ∃ z : Int, z = ((or32 (or32 (floB sz rd r1 r2) (1 * 134217728)) (putN rm 12 3) : Nat) : Int) := ⟨_, rfl⟩
  rw [← hz]
  simp only [cvN, or32_cast, an7_cast, Int.natCast_mul, Int.natCast_emod, Int.cast_ofNat_Int, Bool.toNat_false, Bool.toNat_true] at hz
  have Hz := hide hz
  clear hz
  go_enter Try.func54, Try.ntmps54
  go_upto_region 1 with fail
  refine cutx1 (w := w) (x := #[.int .i64 56, .int .i64 rd, .int .i64 r1, .int .i64 r2, .int .i64 r3, .int .i64 rm, .int .i64 c, .int .i64 sz, .int .i64 i, .bool ui, .bool us, .bool wd]) ?_ ?_ fun W hgW hx => ?_
  · (repeat (first | with_reducible exact GN.refl _ | with_reducible assumption | (with_reducible refine GN.set ?_ ?_ _ _; rotate_left; · first | assumption | (simp; done)) | with_reducible refine GN.alloc ?_ _ | with_reducible refine GN.drewN ?_ _))
  · (repeat (first | with_reducible assumption | with_reducible apply hp_row12 | (with_reducible refine hp_last ?_; · simp) | (with_reducible refine hp_set ?_ ?_; · first | assumption | (simp; done)) | with_reducible refine hp_drewN ?_ | with_reducible refine hp_alloc ?_))
  refine wp_region_F (fun w_ => GN W w_) GN (fun k_ v_ w_ => match k_ with
      | 0 => v_ = .pointer (some ⟨w.heap.size, 7, none⟩)
      | 1 => v_ = .int .i64 sz
      | 2 => v_ = .int .i64 (IntKind.i64.wrap (Int.tdiv sz 8))
      | 3 => v_ = .int .u32 (IntKind.u32.wrap (IntKind.i64.wrap (Int.tdiv sz 8)))
      | 4 => v_ = .int .u32 (szI sz)
      | 5 => v_ = .int .u32 ((or32 83 (szN sz) : Nat) : Int)
      | 6 => v_ = .agg #[.int .i64 56, .int .i64 rd, .int .i64 r1, .int .i64 r2, .int .i64 r3, .int .i64 rm, .int .i64 c, .int .i64 sz, .int .i64 i, .bool ui, .bool us, .bool wd]
      | 7 => v_ = .int .u32 (rN rd r1 r2 : Nat)
      | 8 => v_ = .int .u32 (floB sz rd r1 r2 : Nat)
      | _ => v_ = .int .u32 (floB sz rd r1 r2 : Nat)) fol (by kernel_rfl) ?_ ?_ ?_ ?_
  · exact (GN.refl W).drew
  · intro k_ v_ w_ w2_ h1 hg
    split at h1 <;> exact h1
  · intro vals
    show wpG _ _ _ _ _ _ 0 (_ :: _) _
    refine wpG_cons (gval (.pointer (some ⟨w.heap.size, 7, none⟩)) GN.refl fun w_ hJ hd => ?_) ?_
    · exact ⟨by kernel_rfl, by kernel_rfl, rfl⟩
    refine wpG_cons (gop (Instr.loadAt 3 (.pointer (some ⟨w.heap.size, 7, none⟩))) (.int .i64 sz) GN.refl fun w_ hJ hd => ?_) ?_
    · have e0 : vals 0 = _ := hd 0 (by decide) (by kernel_rfl)
      rw [e0]
      exact ⟨by kernel_rfl, by kernel_rfl, run_load1 (by kernel_rfl) (c12 (GN.heap hJ hx)).2.2.2.2.2.2.2.1.1, rfl⟩
    refine wpG_cons (gval (.int .i64 (IntKind.i64.wrap (Int.tdiv sz 8))) GN.refl fun w_ hJ hd => ?_) ?_
    · have e1 : vals 1 = _ := hd 1 (by decide) (by kernel_rfl)
      rw [e1]
      exact ⟨by kernel_rfl, by kernel_rfl, rfl⟩
    refine wpG_cons (gval (.int .u32 (IntKind.u32.wrap (IntKind.i64.wrap (Int.tdiv sz 8)))) GN.refl fun w_ hJ hd => ?_) ?_
    · have e2 : vals 2 = _ := hd 2 (by decide) (by kernel_rfl)
      rw [e2]
      exact ⟨by kernel_rfl, by kernel_rfl, rfl⟩
    refine wpG_cons (gval (.int .u32 (szI sz)) GN.refl fun w_ hJ hd => ?_) ?_
    · have e3 : vals 3 = _ := hd 3 (by decide) (by kernel_rfl)
      rw [e3]
      exact ⟨by kernel_rfl, by kernel_rfl, rfl⟩
    refine wpG_cons (gop (binOp .or 22 (.int .u32 83) (.int .u32 (szI sz))) (.int .u32 ((or32 83 (szN sz) : Nat) : Int)) GN.refl fun w_ hJ hd => ?_) ?_
    · have e4 : vals 4 = _ := hd 4 (by decide) (by kernel_rfl)
      rw [e4]
      exact ⟨by kernel_rfl, by kernel_rfl, or_run83 sz w_, rfl⟩
    refine wpG_cons (gop (Instr.loadAt 25 (.pointer (some ⟨w.heap.size, 0, none⟩))) (.agg #[.int .i64 56, .int .i64 rd, .int .i64 r1, .int .i64 r2, .int .i64 r3, .int .i64 rm, .int .i64 c, .int .i64 sz, .int .i64 i, .bool ui, .bool us, .bool wd]) GN.refl fun w_ hJ hd => ?_) ?_
    · exact ⟨by kernel_rfl, by kernel_rfl, run_loadRow (GN.heap hJ hx), rfl⟩
    refine wpG_cons (gcall 51 #[.agg #[.int .i64 56, .int .i64 rd, .int .i64 r1, .int .i64 r2, .int .i64 r3, .int .i64 rm, .int .i64 c, .int .i64 sz, .int .i64 i, .bool ui, .bool us, .bool wd]] fun w_ hJ hd => ?_) ?_
    · have e6 : vals 6 = _ := hd 6 (by decide) (by kernel_rfl)
      rw [e6]
      exact ⟨by kernel_rfl, by kernel_rfl, (r_any _ _ _ _ _ _ _ _ _ hi _ _ _ w_).mono fun e w2 ⟨he, hq⟩ => ⟨_, he, GN.trans hJ hq, hq, rfl⟩⟩
    refine wpG_cons (gop (binOp .or 22 (.int .u32 ((or32 83 (szN sz) : Nat) : Int)) (.int .u32 (rN rd r1 r2 : Nat))) (.int .u32 (floB sz rd r1 r2 : Nat)) GN.refl fun w_ hJ hd => ?_) ?_
    · have e5 : vals 5 = _ := hd 5 (by decide) (by kernel_rfl)
      have e7 : vals 7 = _ := hd 7 (by decide) (by kernel_rfl)
      rw [e5, e7]
      exact ⟨by kernel_rfl, by kernel_rfl, or_run _ _ w_, rfl⟩
    refine wpG_cons (gval (.int .u32 (floB sz rd r1 r2 : Nat)) GN.refl fun w_ hJ hd => ?_) wpG_nil
    · have e8 : vals 8 = _ := hd 8 (by decide) (by kernel_rfl)
      rw [e8]
      exact ⟨by kernel_rfl, by kernel_rfl, rfl⟩
  intro vals w_ hJ hf
  have e0 : vals 0 = _ := hf 0 (by decide)
  have e1 : vals 1 = _ := hf 1 (by decide)
  have e2 : vals 2 = _ := hf 2 (by decide)
  have e3 : vals 3 = _ := hf 3 (by decide)
  have e4 : vals 4 = _ := hf 4 (by decide)
  have e5 : vals 5 = _ := hf 5 (by decide)
  have e6 : vals 6 = _ := hf 6 (by decide)
  have e7 : vals 7 = _ := hf 7 (by decide)
  have e8 : vals 8 = _ := hf 8 (by decide)
  have e9 : vals 9 = _ := hf 9 (by decide)
  simp only [fillG, Nat.zero_add, Nat.reduceAdd, e0, e1, e2, e3, e4, e5, e6, e7, e8, e9, Act.put, List.setIfInBounds_toArray, List.set_cons_succ, List.set_cons_zero]
  clear e0 e1 e2 e3 e4 e5 e6 e7 e8 e9 hf
  have hx4 := GN.heap hJ hx
  have hgW4 := GN.trans hgW hJ
  clear hgW hx hJ
  obtain ⟨⟨p0, q0⟩, ⟨p1, q1⟩, ⟨p2, q2⟩, ⟨p3, q3⟩, ⟨p4, q4⟩, ⟨p5, q5⟩, ⟨p6, q6⟩, ⟨p7, q7⟩, ⟨p8, q8⟩, ⟨p9, q9⟩, ⟨p10, q10⟩, ⟨p11, q11⟩⟩ := c12 hx4
  have W1 := lt_of_heap' hx4
  generalize hFB : floB sz rd r1 r2 = FB at *
  go_upto_region 3 with (go_at_call 46; refine (put_any _ _ _ (by decide) (by decide) _).mono ?_; rintro _ _ ⟨rfl, m_, rfl⟩)
  refine cutx1 (w := w) (GN.drewN hgW4 _) hx4 fun W5 hgW5 hx5 => ?_
  clear p0 q0 p1 q1 p2 q2 p3 q3 p4 q4 p5 q5 p6 q6 p7 q7 p8 q8 p9 q9 p10 q10 p11 q11 hgW4 hx4 W1
  obtain ⟨⟨p0, q0⟩, ⟨p1, q1⟩, ⟨p2, q2⟩, ⟨p3, q3⟩, ⟨p4, q4⟩, ⟨p5, q5⟩, ⟨p6, q6⟩, ⟨p7, q7⟩, ⟨p8, q8⟩, ⟨p9, q9⟩, ⟨p10, q10⟩, ⟨p11, q11⟩⟩ := c12 hx5
  have W1 := lt_of_heap' hx5
  go_quiet ((go_at_call 49; exact Calls.quiet_of (mark_any _ _)))
  go_wp2_with (first | (go_at_call 49; refine (mark_any _ _).mono ?_; rintro _ _ ⟨rfl, m_, rfl⟩) | (go_at_call 46; refine (put_any _ _ _ (by decide) (by decide) _).mono ?_; rintro _ _ ⟨rfl, m_, rfl⟩))
  go_ret2
  exact ⟨by rw [unhide Hz]; rfl, by (repeat (first | with_reducible exact GN.refl _ | with_reducible assumption | (with_reducible refine GN.set ?_ ?_ _ _; rotate_left; · first | assumption | (simp; done)) | with_reducible refine GN.alloc ?_ _ | with_reducible refine GN.drewN ?_ _))⟩

set_option maxRecDepth 100000 in
set_option maxHeartbeats 4000000 in
theorem flo_60 (rd r1 r2 r3 rm c sz i : Int) (hi : (Lit.int .i64 i).wf = true) (ui us wd : Bool) (w : World) : Calls Try.prog 54 #[.agg #[.int .i64 60, .int .i64 rd, .int .i64 r1, .int .i64 r2, .int .i64 r3, .int .i64 rm, .int .i64 c, .int .i64 sz, .int .i64 i, .bool ui, .bool us, .bool wd]] w fun e w' => e = .returned (.tuple #[.int .u32 ((or32 (or32 (or32 (or32 (an7 (floB sz rd r1 r2)) 67) (0 * 4)) (putN r3 27 5)) (putN rm 12 3) : Nat) : Int), .bool true]) ∧ GN w w' := by
  obtain ⟨z, hz⟩ : ∃ z : Int, z = ((or32 (or32 (or32 (or32 (an7 (floB sz rd r1 r2)) 67) (0 * 4)) (putN r3 27 5)) (putN rm 12 3) : Nat) : Int) := ⟨_, rfl⟩
  rw [← hz]
  simp only [cvN, or32_cast, an7_cast, Int.natCast_mul, Int.natCast_emod, Int.cast_ofNat_Int, Bool.toNat_false, Bool.toNat_true] at hz
  have Hz := hide hz
  clear hz
  go_enter Try.func54, Try.ntmps54
  go_upto_region 1 with fail
  refine cutx1 (w := w) (x := #[.int .i64 60, .int .i64 rd, .int .i64 r1, .int .i64 r2, .int .i64 r3, .int .i64 rm, .int .i64 c, .int .i64 sz, .int .i64 i, .bool ui, .bool us, .bool wd]) ?_ ?_ fun W hgW hx => ?_
  · (repeat (first | with_reducible exact GN.refl _ | with_reducible assumption | (with_reducible refine GN.set ?_ ?_ _ _; rotate_left; · first | assumption | (simp; done)) | with_reducible refine GN.alloc ?_ _ | with_reducible refine GN.drewN ?_ _))
  · (repeat (first | with_reducible assumption | with_reducible apply hp_row12 | (with_reducible refine hp_last ?_; · simp) | (with_reducible refine hp_set ?_ ?_; · first | assumption | (simp; done)) | with_reducible refine hp_drewN ?_ | with_reducible refine hp_alloc ?_))
  refine wp_region_F (fun w_ => GN W w_) GN (fun k_ v_ w_ => match k_ with
      | 0 => v_ = .pointer (some ⟨w.heap.size, 7, none⟩)
      | 1 => v_ = .int .i64 sz
      | 2 => v_ = .int .i64 (IntKind.i64.wrap (Int.tdiv sz 8))
      | 3 => v_ = .int .u32 (IntKind.u32.wrap (IntKind.i64.wrap (Int.tdiv sz 8)))
      | 4 => v_ = .int .u32 (szI sz)
      | 5 => v_ = .int .u32 ((or32 83 (szN sz) : Nat) : Int)
      | 6 => v_ = .agg #[.int .i64 60, .int .i64 rd, .int .i64 r1, .int .i64 r2, .int .i64 r3, .int .i64 rm, .int .i64 c, .int .i64 sz, .int .i64 i, .bool ui, .bool us, .bool wd]
      | 7 => v_ = .int .u32 (rN rd r1 r2 : Nat)
      | 8 => v_ = .int .u32 (floB sz rd r1 r2 : Nat)
      | _ => v_ = .int .u32 (floB sz rd r1 r2 : Nat)) fol (by kernel_rfl) ?_ ?_ ?_ ?_
  · exact (GN.refl W).drew
  · intro k_ v_ w_ w2_ h1 hg
    split at h1 <;> exact h1
  · intro vals
    show wpG _ _ _ _ _ _ 0 (_ :: _) _
    refine wpG_cons (gval (.pointer (some ⟨w.heap.size, 7, none⟩)) GN.refl fun w_ hJ hd => ?_) ?_
    · exact ⟨by kernel_rfl, by kernel_rfl, rfl⟩
    refine wpG_cons (gop (Instr.loadAt 3 (.pointer (some ⟨w.heap.size, 7, none⟩))) (.int .i64 sz) GN.refl fun w_ hJ hd => ?_) ?_
    · have e0 : vals 0 = _ := hd 0 (by decide) (by kernel_rfl)
      rw [e0]
      exact ⟨by kernel_rfl, by kernel_rfl, run_load1 (by kernel_rfl) (c12 (GN.heap hJ hx)).2.2.2.2.2.2.2.1.1, rfl⟩
    refine wpG_cons (gval (.int .i64 (IntKind.i64.wrap (Int.tdiv sz 8))) GN.refl fun w_ hJ hd => ?_) ?_
    · have e1 : vals 1 = _ := hd 1 (by decide) (by kernel_rfl)
      rw [e1]
      exact ⟨by kernel_rfl, by kernel_rfl, rfl⟩
    refine wpG_cons (gval (.int .u32 (IntKind.u32.wrap (IntKind.i64.wrap (Int.tdiv sz 8)))) GN.refl fun w_ hJ hd => ?_) ?_
    · have e2 : vals 2 = _ := hd 2 (by decide) (by kernel_rfl)
      rw [e2]
      exact ⟨by kernel_rfl, by kernel_rfl, rfl⟩
    refine wpG_cons (gval (.int .u32 (szI sz)) GN.refl fun w_ hJ hd => ?_) ?_
    · have e3 : vals 3 = _ := hd 3 (by decide) (by kernel_rfl)
      rw [e3]
      exact ⟨by kernel_rfl, by kernel_rfl, rfl⟩
    refine wpG_cons (gop (binOp .or 22 (.int .u32 83) (.int .u32 (szI sz))) (.int .u32 ((or32 83 (szN sz) : Nat) : Int)) GN.refl fun w_ hJ hd => ?_) ?_
    · have e4 : vals 4 = _ := hd 4 (by decide) (by kernel_rfl)
      rw [e4]
      exact ⟨by kernel_rfl, by kernel_rfl, or_run83 sz w_, rfl⟩
    refine wpG_cons (gop (Instr.loadAt 25 (.pointer (some ⟨w.heap.size, 0, none⟩))) (.agg #[.int .i64 60, .int .i64 rd, .int .i64 r1, .int .i64 r2, .int .i64 r3, .int .i64 rm, .int .i64 c, .int .i64 sz, .int .i64 i, .bool ui, .bool us, .bool wd]) GN.refl fun w_ hJ hd => ?_) ?_
    · exact ⟨by kernel_rfl, by kernel_rfl, run_loadRow (GN.heap hJ hx), rfl⟩
    refine wpG_cons (gcall 51 #[.agg #[.int .i64 60, .int .i64 rd, .int .i64 r1, .int .i64 r2, .int .i64 r3, .int .i64 rm, .int .i64 c, .int .i64 sz, .int .i64 i, .bool ui, .bool us, .bool wd]] fun w_ hJ hd => ?_) ?_
    · have e6 : vals 6 = _ := hd 6 (by decide) (by kernel_rfl)
      rw [e6]
      exact ⟨by kernel_rfl, by kernel_rfl, (r_any _ _ _ _ _ _ _ _ _ hi _ _ _ w_).mono fun e w2 ⟨he, hq⟩ => ⟨_, he, GN.trans hJ hq, hq, rfl⟩⟩
    refine wpG_cons (gop (binOp .or 22 (.int .u32 ((or32 83 (szN sz) : Nat) : Int)) (.int .u32 (rN rd r1 r2 : Nat))) (.int .u32 (floB sz rd r1 r2 : Nat)) GN.refl fun w_ hJ hd => ?_) ?_
    · have e5 : vals 5 = _ := hd 5 (by decide) (by kernel_rfl)
      have e7 : vals 7 = _ := hd 7 (by decide) (by kernel_rfl)
      rw [e5, e7]
      exact ⟨by kernel_rfl, by kernel_rfl, or_run _ _ w_, rfl⟩
    refine wpG_cons (gval (.int .u32 (floB sz rd r1 r2 : Nat)) GN.refl fun w_ hJ hd => ?_) wpG_nil
    · have e8 : vals 8 = _ := hd 8 (by decide) (by kernel_rfl)
      rw [e8]
      exact ⟨by kernel_rfl, by kernel_rfl, rfl⟩
  intro vals w_ hJ hf
  have e0 : vals 0 = _ := hf 0 (by decide)
  have e1 : vals 1 = _ := hf 1 (by decide)
  have e2 : vals 2 = _ := hf 2 (by decide)
  have e3 : vals 3 = _ := hf 3 (by decide)
  have e4 : vals 4 = _ := hf 4 (by decide)
  have e5 : vals 5 = _ := hf 5 (by decide)
  have e6 : vals 6 = _ := hf 6 (by decide)
  have e7 : vals 7 = _ := hf 7 (by decide)
  have e8 : vals 8 = _ := hf 8 (by decide)
  have e9 : vals 9 = _ := hf 9 (by decide)
  simp only [fillG, Nat.zero_add, Nat.reduceAdd, e0, e1, e2, e3, e4, e5, e6, e7, e8, e9, Act.put, List.setIfInBounds_toArray, List.set_cons_succ, List.set_cons_zero]
  clear e0 e1 e2 e3 e4 e5 e6 e7 e8 e9 hf
  have hx4 := GN.heap hJ hx
  have hgW4 := GN.trans hgW hJ
  clear hgW hx hJ
  obtain ⟨⟨p0, q0⟩, ⟨p1, q1⟩, ⟨p2, q2⟩, ⟨p3, q3⟩, ⟨p4, q4⟩, ⟨p5, q5⟩, ⟨p6, q6⟩, ⟨p7, q7⟩, ⟨p8, q8⟩, ⟨p9, q9⟩, ⟨p10, q10⟩, ⟨p11, q11⟩⟩ := c12 hx4
  have W1 := lt_of_heap' hx4
  generalize hFB : floB sz rd r1 r2 = FB at *
  go_upto_region 3 with (go_at_call 46; refine (put_any _ _ _ (by decide) (by decide) _).mono ?_; rintro _ _ ⟨rfl, m_, rfl⟩)
  refine cutx1 (w := w) (GN.drewN hgW4 _) hx4 fun W5 hgW5 hx5 => ?_
  clear p0 q0 p1 q1 p2 q2 p3 q3 p4 q4 p5 q5 p6 q6 p7 q7 p8 q8 p9 q9 p10 q10 p11 q11 hgW4 hx4 W1
  obtain ⟨⟨p0, q0⟩, ⟨p1, q1⟩, ⟨p2, q2⟩, ⟨p3, q3⟩, ⟨p4, q4⟩, ⟨p5, q5⟩, ⟨p6, q6⟩, ⟨p7, q7⟩, ⟨p8, q8⟩, ⟨p9, q9⟩, ⟨p10, q10⟩, ⟨p11, q11⟩⟩ := c12 hx5
  have W1 := lt_of_heap' hx5
  go_quiet ((go_at_call 49; exact Calls.quiet_of (mark_any _ _)))
  go_wp2_with (first | (go_at_call 49; refine (mark_any _ _).mono ?_; rintro _ _ ⟨rfl, m_, rfl⟩) | (go_at_call 46; refine (put_any _ _ _ (by decide) (by decide) _).mono ?_; rintro _ _ ⟨rfl, m_, rfl⟩))
  go_ret2
  exact ⟨by rw [unhide Hz]; rfl, by (repeat (first | with_reducible exact GN.refl _ | with_reducible assumption | (with_reducible refine GN.set ?_ ?_ _ _; rotate_left; · first | assumption | (simp; done)) | with_reducible refine GN.alloc ?_ _ | with_reducible refine GN.drewN ?_ _))⟩

set_option maxRecDepth 100000 in
set_option maxHeartbeats 4000000 in
theorem flo_64 (rd r1 r2 r3 rm c sz i : Int) (hi : (Lit.int .i64 i).wf = true) (ui us wd : Bool) (w : World) : Calls Try.prog 54 #[.agg #[.int .i64 64, .int .i64 rd, .int .i64 r1, .int .i64 r2, .int .i64 r3, .int .i64 rm, .int .i64 c, .int .i64 sz, .int .i64 i, .bool ui, .bool us, .bool wd]] w fun e w' => e = .returned (.tuple #[.int .u32 ((or32 (or32 (floB sz rd r1 r2) 536870912) (0 * 4096) : Nat) : Int), .bool true]) ∧ GN w w' := by
  obtain ⟨z, hz⟩ : ∃ z : Int, z = ((or32 (or32 (floB sz rd r1 r2) 536870912) (0 * 4096) : Nat) : Int) := ⟨_, rfl⟩
  rw [← hz]
  simp only [cvN, or32_cast, an7_cast, Int.natCast_mul, Int.natCast_emod, Int.cast_ofNat_Int, Bool.toNat_false, Bool.toNat_true] at hz
  have Hz := hide hz
  clear hz
  go_enter Try.func54, Try.ntmps54
  go_upto_region 1 with fail
  refine cutx1 (w := w) (x := #[.int .i64 64, .int .i64 rd, .int .i64 r1, .int .i64 r2, .int .i64 r3, .int .i64 rm, .int .i64 c, .int .i64 sz, .int .i64 i, .bool ui, .bool us, .bool wd]) ?_ ?_ fun W hgW hx => ?_
  · (repeat (first | with_reducible exact GN.refl _ | with_reducible assumption | (with_reducible refine GN.set ?_ ?_ _ _; rotate_left; · first | assumption | (simp; done)) | with_reducible refine GN.alloc ?_ _ | with_reducible refine GN.drewN ?_ _))
  · (repeat (first | with_reducible assumption | with_reducible apply hp_row12 | (with_reducible refine hp_last ?_; · simp) | (with_reducible refine hp_set ?_ ?_; · first | assumption | (simp; done)) | with_reducible refine hp_drewN ?_ | with_reducible refine hp_alloc ?_))
  refine wp_region_F (fun w_ => GN W w_) GN (fun k_ v_ w_ => match k_ with
      | 0 => v_ = .pointer (some ⟨w.heap.size, 7, none⟩)
      | 1 => v_ = .int .i64 sz
      | 2 => v_ = .int .i64 (IntKind.i64.wrap (Int.tdiv sz 8))
      | 3 => v_ = .int .u32 (IntKind.u32.wrap (IntKind.i64.wrap (Int.tdiv sz 8)))
      | 4 => v_ = .int .u32 (szI sz)
      | 5 => v_ = .int .u32 ((or32 83 (szN sz) : Nat) : Int)
      | 6 => v_ = .agg #[.int .i64 64, .int .i64 rd, .int .i64 r1, .int .i64 r2, .int .i64 r3, .int .i64 rm, .int .i64 c, .int .i64 sz, .int .i64 i, .bool ui, .bool us, .bool wd]
      | 7 => v_ = .int .u32 (rN rd r1 r2 : Nat)
      | 8 => v_ = .int .u32 (floB sz rd r1 r2 : Nat)
      | _ => v_ = .int .u32 (floB sz rd r1 r2 : Nat)) fol (by kernel_rfl) ?_ ?_ ?_ ?_
  · exact (GN.refl W).drew
  · intro k_ v_ w_ w2_ h1 hg
    split at h1 <;> exact h1
  · intro vals
    show wpG _ _ _ _ _ _ 0 (_ :: _) _
    refine wpG_cons (gval (.pointer (some ⟨w.heap.size, 7, none⟩)) GN.refl fun w_ hJ hd => ?_) ?_
    · exact ⟨by kernel_rfl, by kernel_rfl, rfl⟩
    refine wpG_cons (gop (Instr.loadAt 3 (.pointer (some ⟨w.heap.size, 7, none⟩))) (.int .i64 sz) GN.refl fun w_ hJ hd => ?_) ?_
    · have e0 : vals 0 = _ := hd 0 (by decide) (by kernel_rfl)
      rw [e0]
      exact ⟨by kernel_rfl, by kernel_rfl, run_load1 (by kernel_rfl) (c12 (GN.heap hJ hx)).2.2.2.2.2.2.2.1.1, rfl⟩
    refine wpG_cons (gval (.int .i64 (IntKind.i64.wrap (Int.tdiv sz 8))) GN.refl fun w_ hJ hd => ?_) ?_
    · have e1 : vals 1 = _ := hd 1 (by decide) (by kernel_rfl)
      rw [e1]
      exact ⟨by kernel_rfl, by kernel_rfl, rfl⟩
    refine wpG_cons (gval (.int .u32 (IntKind.u32.wrap (IntKind.i64.wrap (Int.tdiv sz 8)))) GN.refl fun w_ hJ hd => ?_) ?_
    · have e2 : vals 2 = _ := hd 2 (by decide) (by kernel_rfl)
      rw [e2]
      exact ⟨by kernel_rfl, by kernel_rfl, rfl⟩
    refine wpG_cons (gval (.int .u32 (szI sz)) GN.refl fun w_ hJ hd => ?_) ?_
    · have e3 : vals 3 = _ := hd 3 (by decide) (by kernel_rfl)
      rw [e3]
      exact ⟨by kernel_rfl, by kernel_rfl, rfl⟩
    refine wpG_cons (gop (binOp .or 22 (.int .u32 83) (.int .u32 (szI sz))) (.int .u32 ((or32 83 (szN sz) : Nat) : Int)) GN.refl fun w_ hJ hd => ?_) ?_
    · have e4 : vals 4 = _ := hd 4 (by decide) (by kernel_rfl)
      rw [e4]
      exact ⟨by kernel_rfl, by kernel_rfl, or_run83 sz w_, rfl⟩
    refine wpG_cons (gop (Instr.loadAt 25 (.pointer (some ⟨w.heap.size, 0, none⟩))) (.agg #[.int .i64 64, .int .i64 rd, .int .i64 r1, .int .i64 r2, .int .i64 r3, .int .i64 rm, .int .i64 c, .int .i64 sz, .int .i64 i, .bool ui, .bool us, .bool wd]) GN.refl fun w_ hJ hd => ?_) ?_
    · exact ⟨by kernel_rfl, by kernel_rfl, run_loadRow (GN.heap hJ hx), rfl⟩
    refine wpG_cons (gcall 51 #[.agg #[.int .i64 64, .int .i64 rd, .int .i64 r1, .int .i64 r2, .int .i64 r3, .int .i64 rm, .int .i64 c, .int .i64 sz, .int .i64 i, .bool ui, .bool us, .bool wd]] fun w_ hJ hd => ?_) ?_
    · have e6 : vals 6 = _ := hd 6 (by decide) (by kernel_rfl)
      rw [e6]
      exact ⟨by kernel_rfl, by kernel_rfl, (r_any _ _ _ _ _ _ _ _ _ hi _ _ _ w_).mono fun e w2 ⟨he, hq⟩ => ⟨_, he, GN.trans hJ hq, hq, rfl⟩⟩
    refine wpG_cons (gop (binOp .or 22 (.int .u32 ((or32 83 (szN sz) : Nat) : Int)) (.int .u32 (rN rd r1 r2 : Nat))) (.int .u32 (floB sz rd r1 r2 : Nat)) GN.refl fun w_ hJ hd => ?_) ?_
    · have e5 : vals 5 = _ := hd 5 (by decide) (by kernel_rfl)
      have e7 : vals 7 = _ := hd 7 (by decide) (by kernel_rfl)
      rw [e5, e7]
      exact ⟨by kernel_rfl, by kernel_rfl, or_run _ _ w_, rfl⟩
    refine wpG_cons (gval (.int .u32 (floB sz rd r1 r2 : Nat)) GN.refl fun w_ hJ hd => ?_) wpG_nil
    · have e8 : vals 8 = _ := hd 8 (by decide) (by kernel_rfl)
      rw [e8]
      exact ⟨by kernel_rfl, by kernel_rfl, rfl⟩
  intro vals w_ hJ hf
  have e0 : vals 0 = _ := hf 0 (by decide)
  have e1 : vals 1 = _ := hf 1 (by decide)
  have e2 : vals 2 = _ := hf 2 (by decide)
  have e3 : vals 3 = _ := hf 3 (by decide)
  have e4 : vals 4 = _ := hf 4 (by decide)
  have e5 : vals 5 = _ := hf 5 (by decide)
  have e6 : vals 6 = _ := hf 6 (by decide)
  have e7 : vals 7 = _ := hf 7 (by decide)
  have e8 : vals 8 = _ := hf 8 (by decide)
  have e9 : vals 9 = _ := hf 9 (by decide)
  simp only [fillG, Nat.zero_add, Nat.reduceAdd, e0, e1, e2, e3, e4, e5, e6, e7, e8, e9, Act.put, List.setIfInBounds_toArray, List.set_cons_succ, List.set_cons_zero]
  clear e0 e1 e2 e3 e4 e5 e6 e7 e8 e9 hf
  have hx4 := GN.heap hJ hx
  have hgW4 := GN.trans hgW hJ
  clear hgW hx hJ
  obtain ⟨⟨p0, q0⟩, ⟨p1, q1⟩, ⟨p2, q2⟩, ⟨p3, q3⟩, ⟨p4, q4⟩, ⟨p5, q5⟩, ⟨p6, q6⟩, ⟨p7, q7⟩, ⟨p8, q8⟩, ⟨p9, q9⟩, ⟨p10, q10⟩, ⟨p11, q11⟩⟩ := c12 hx4
  have W1 := lt_of_heap' hx4
  generalize hFB : floB sz rd r1 r2 = FB at *
  go_upto_region 3 with (go_at_call 46; refine (put_any _ _ _ (by decide) (by decide) _).mono ?_; rintro _ _ ⟨rfl, m_, rfl⟩)
  refine cutx1 (w := w) (GN.drewN hgW4 _) hx4 fun W5 hgW5 hx5 => ?_
  clear p0 q0 p1 q1 p2 q2 p3 q3 p4 q4 p5 q5 p6 q6 p7 q7 p8 q8 p9 q9 p10 q10 p11 q11 hgW4 hx4 W1
  obtain ⟨⟨p0, q0⟩, ⟨p1, q1⟩, ⟨p2, q2⟩, ⟨p3, q3⟩, ⟨p4, q4⟩, ⟨p5, q5⟩, ⟨p6, q6⟩, ⟨p7, q7⟩, ⟨p8, q8⟩, ⟨p9, q9⟩, ⟨p10, q10⟩, ⟨p11, q11⟩⟩ := c12 hx5
  have W1 := lt_of_heap' hx5
  go_quiet ((go_at_call 49; exact Calls.quiet_of (mark_any _ _)))
  go_wp2_with (first | (go_at_call 49; refine (mark_any _ _).mono ?_; rintro _ _ ⟨rfl, m_, rfl⟩) | (go_at_call 46; refine (put_any _ _ _ (by decide) (by decide) _).mono ?_; rintro _ _ ⟨rfl, m_, rfl⟩))
  go_ret2
  exact ⟨by rw [unhide Hz]; rfl, by (repeat (first | with_reducible exact GN.refl _ | with_reducible assumption | (with_reducible refine GN.set ?_ ?_ _ _; rotate_left; · first | assumption | (simp; done)) | with_reducible refine GN.alloc ?_ _ | with_reducible refine GN.drewN ?_ _))⟩

set_option maxRecDepth 100000 in
set_option maxHeartbeats 4000000 in
theorem flo_68 (rd r1 r2 r3 rm c sz i : Int) (hi : (Lit.int .i64 i).wf = true) (ui us wd : Bool) (w : World) : Calls Try.prog 54 #[.agg #[.int .i64 68, .int .i64 rd, .int .i64 r1, .int .i64 r2, .int .i64 r3, .int .i64 rm, .int .i64 c, .int .i64 sz, .int .i64 i, .bool ui, .bool us, .bool wd]] w fun e w' => e = .returned (.tuple #[.int .u32 ((or32 (or32 (floB sz rd r1 r2) 671088640) (1 * 4096) : Nat) : Int), .bool true]) ∧ GN w w' := by
  obtain ⟨z, hz⟩ : ∃ z : Int, z = ((or32 (or32 (floB sz rd r1 r2) 671088640) (1 * 4096) : Nat) : Int) := ⟨_, rfl⟩
  rw [← hz]
  simp only [cvN, or32_cast, an7_cast, Int.natCast_mul, Int.natCast_emod, Int.cast_ofNat_Int, Bool.toNat_false, Bool.toNat_true] at hz
  have Hz := hide hz
  clear hz
  go_enter Try.func54, Try.ntmps54
  go_upto_region 1 with fail
  refine cutx1 (w := w) (x := #[.int .i64 68, .int .i64 rd, .int .i64 r1, .int .i64 r2, .int .i64 r3, .int .i64 rm, .int .i64 c, .int .i64 sz, .int .i64 i, .bool ui, .bool us, .bool wd]) ?_ ?_ fun W hgW hx => ?_
  · (repeat (first | with_reducible exact GN.refl _ | with_reducible assumption | (with_reducible refine GN.set ?_ ?_ _ _; rotate_left; · first | assumption | (simp; done)) | with_reducible refine GN.alloc ?_ _ | with_reducible refine GN.drewN ?_ _))
  · (repeat (first | with_reducible assumption | with_reducible apply hp_row12 | (with_reducible refine hp_last ?_; · simp) | (with_reducible refine hp_set ?_ ?_; · first | assumption | (simp; done)) | with_reducible refine hp_drewN ?_ | with_reducible refine hp_alloc ?_))
  refine wp_region_F (fun w_ => GN W w_) GN (fun k_ v_ w_ => match k_ with
      | 0 => v_ = .pointer (some ⟨w.heap.size, 7, none⟩)
      | 1 => v_ = .int .i64 sz
      | 2 => v_ = .int .i64 (IntKind.i64.wrap (Int.tdiv sz 8))
      | 3 => v_ = .int .u32 (IntKind.u32.wrap (IntKind.i64.wrap (Int.tdiv sz 8)))
      | 4 => v_ = .int .u32 (szI sz)
      | 5 => v_ = .int .u32 ((or32 83 (szN sz) : Nat) : Int)
      | 6 => v_ = .agg #[.int .i64 68, .int .i64 rd, .int .i64 r1, .int .i64 r2, .int .i64 r3, .int .i64 rm, .int .i64 c, .int .i64 sz, .int .i64 i, .bool ui, .bool us, .bool wd]
      | 7 => v_ = .int .u32 (rN rd r1 r2 : Nat)
      | 8 => v_ = .int .u32 (floB sz rd r1 r2 : Nat)
      | _ => v_ = .int .u32 (floB sz rd r1 r2 : Nat)) fol (by kernel_rfl) ?_ ?_ ?_ ?_
  · exact (GN.refl W).drew
  · intro k_ v_ w_ w2_ h1 hg
    split at h1 <;> exact h1
  · intro vals
    show wpG _ _ _ _ _ _ 0 (_ :: _) _
    refine wpG_cons (gval (.pointer (some ⟨w.heap.size, 7, none⟩)) GN.refl fun w_ hJ hd => ?_) ?_
    · exact ⟨by kernel_rfl, by kernel_rfl, rfl⟩
    refine wpG_cons (gop (Instr.loadAt 3 (.pointer (some ⟨w.heap.size, 7, none⟩))) (.int .i64 sz) GN.refl fun w_ hJ hd => ?_) ?_
    · have e0 : vals 0 = _ := hd 0 (by decide) (by kernel_rfl)
      rw [e0]
      exact ⟨by kernel_rfl, by kernel_rfl, run_load1 (by kernel_rfl) (c12 (GN.heap hJ hx)).2.2.2.2.2.2.2.1.1, rfl⟩
    refine wpG_cons (gval (.int .i64 (IntKind.i64.wrap (Int.tdiv sz 8))) GN.refl fun w_ hJ hd => ?_) ?_
    · have e1 : vals 1 = _ := hd 1 (by decide) (by kernel_rfl)
      rw [e1]
      exact ⟨by kernel_rfl, by kernel_rfl, rfl⟩
    refine wpG_cons (gval (.int .u32 (IntKind.u32.wrap (IntKind.i64.wrap (Int.tdiv sz 8)))) GN.refl fun w_ hJ hd => ?_) ?_
    · have e2 : vals 2 = _ := hd 2 (by decide) (by kernel_rfl)
      rw [e2]
      exact ⟨by kernel_rfl, by kernel_rfl, rfl⟩
    refine wpG_cons (gval (.int .u32 (szI sz)) GN.refl fun w_ hJ hd => ?_) ?_
    · have e3 : vals 3 = _ := hd 3 (by decide) (by kernel_rfl)
      rw [e3]
      exact ⟨by kernel_rfl, by kernel_rfl, rfl⟩
    refine wpG_cons (gop (binOp .or 22 (.int .u32 83) (.int .u32 (szI sz))) (.int .u32 ((or32 83 (szN sz) : Nat) : Int)) GN.refl fun w_ hJ hd => ?_) ?_
    · have e4 : vals 4 = _ := hd 4 (by decide) (by kernel_rfl)
      rw [e4]
      exact ⟨by kernel_rfl, by kernel_rfl, or_run83 sz w_, rfl⟩
    refine wpG_cons (gop (Instr.loadAt 25 (.pointer (some ⟨w.heap.size, 0, none⟩))) (.agg #[.int .i64 68, .int .i64 rd, .int .i64 r1, .int .i64 r2, .int .i64 r3, .int .i64 rm, .int .i64 c, .int .i64 sz, .int .i64 i, .bool ui, .bool us, .bool wd]) GN.refl fun w_ hJ hd => ?_) ?_
    · exact ⟨by kernel_rfl, by kernel_rfl, run_loadRow (GN.heap hJ hx), rfl⟩
    refine wpG_cons (gcall 51 #[.agg #[.int .i64 68, .int .i64 rd, .int .i64 r1, .int .i64 r2, .int .i64 r3, .int .i64 rm, .int .i64 c, .int .i64 sz, .int .i64 i, .bool ui, .bool us, .bool wd]] fun w_ hJ hd => ?_) ?_
    · have e6 : vals 6 = _ := hd 6 (by decide) (by kernel_rfl)
      rw [e6]
      exact ⟨by kernel_rfl, by kernel_rfl, (r_any _ _ _ _ _ _ _ _ _ hi _ _ _ w_).mono fun e w2 ⟨he, hq⟩ => ⟨_, he, GN.trans hJ hq, hq, rfl⟩⟩
    refine wpG_cons (gop (binOp .or 22 (.int .u32 ((or32 83 (szN sz) : Nat) : Int)) (.int .u32 (rN rd r1 r2 : Nat))) (.int .u32 (floB sz rd r1 r2 : Nat)) GN.refl fun w_ hJ hd => ?_) ?_
    · have e5 : vals 5 = _ := hd 5 (by decide) (by kernel_rfl)
      have e7 : vals 7 = _ := hd 7 (by decide) (by kernel_rfl)
      rw [e5, e7]
      exact ⟨by kernel_rfl, by kernel_rfl, or_run _ _ w_, rfl⟩
    refine wpG_cons (gval (.int .u32 (floB sz rd r1 r2 : Nat)) GN.refl fun w_ hJ hd => ?_) wpG_nil
    · have e8 : vals 8 = _ := hd 8 (by decide) (by kernel_rfl)
      rw [e8]
      exact ⟨by kernel_rfl, by kernel_rfl, rfl⟩
  intro vals w_ hJ hf
  have e0 : vals 0 = _ := hf 0 (by decide)
  have e1 : vals 1 = _ := hf 1 (by decide)
  have e2 : vals 2 = _ := hf 2 (by decide)
  have e3 : vals 3 = _ := hf 3 (by decide)
  have e4 : vals 4 = _ := hf 4 (by decide)
  have e5 : vals 5 = _ := hf 5 (by decide)
  have e6 : vals 6 = _ := hf 6 (by decide)
  have e7 : vals 7 = _ := hf 7 (by decide)
  have e8 : vals 8 = _ := hf 8 (by decide)
  have e9 : vals 9 = _ := hf 9 (by decide)
  simp only [fillG, Nat.zero_add, Nat.reduceAdd, e0, e1, e2, e3, e4, e5, e6, e7, e8, e9, Act.put, List.setIfInBounds_toArray, List.set_cons_succ, List.set_cons_zero]
  clear e0 e1 e2 e3 e4 e5 e6 e7 e8 e9 hf
  have hx4 := GN.heap hJ hx
  have hgW4 := GN.trans hgW hJ
  clear hgW hx hJ
  obtain ⟨⟨p0, q0⟩, ⟨p1, q1⟩, ⟨p2, q2⟩, ⟨p3, q3⟩, ⟨p4, q4⟩, ⟨p5, q5⟩, ⟨p6, q6⟩, ⟨p7, q7⟩, ⟨p8, q8⟩, ⟨p9, q9⟩, ⟨p10, q10⟩, ⟨p11, q11⟩⟩ := c12 hx4
  have W1 := lt_of_heap' hx4
  generalize hFB : floB sz rd r1 r2 = FB at *
  go_upto_region 3 with (go_at_call 46; refine (put_any _ _ _ (by decide) (by decide) _).mono ?_; rintro _ _ ⟨rfl, m_, rfl⟩)
  refine cutx1 (w := w) (GN.drewN hgW4 _) hx4 fun W5 hgW5 hx5 => ?_
  clear p0 q0 p1 q1 p2 q2 p3 q3 p4 q4 p5 q5 p6 q6 p7 q7 p8 q8 p9 q9 p10 q10 p11 q11 hgW4 hx4 W1
  obtain ⟨⟨p0, q0⟩, ⟨p1, q1⟩, ⟨p2, q2⟩, ⟨p3, q3⟩, ⟨p4, q4⟩, ⟨p5, q5⟩, ⟨p6, q6⟩, ⟨p7, q7⟩, ⟨p8, q8⟩, ⟨p9, q9⟩, ⟨p10, q10⟩, ⟨p11, q11⟩⟩ := c12 hx5
  have W1 := lt_of_heap' hx5
  go_quiet ((go_at_call 49; exact Calls.quiet_of (mark_any _ _)))
  go_wp2_with (first | (go_at_call 49; refine (mark_any _ _).mono ?_; rintro _ _ ⟨rfl, m_, rfl⟩) | (go_at_call 46; refine (put_any _ _ _ (by decide) (by decide) _).mono ?_; rintro _ _ ⟨rfl, m_, rfl⟩))
  go_ret2
  exact ⟨by rw [unhide Hz]; rfl, by (repeat (first | with_reducible exact GN.refl _ | with_reducible assumption | (with_reducible refine GN.set ?_ ?_ _ _; rotate_left; · first | assumption | (simp; done)) | with_reducible refine GN.alloc ?_ _ | with_reducible refine GN.drewN ?_ _))⟩

set_option maxRecDepth 100000 in
set_option maxHeartbeats 4000000 in
theorem flo_75 (rd r1 r2 r3 rm c sz i : Int) (hi : (Lit.int .i64 i).wf = true) (ui us wd : Bool) (w : World) : Calls Try.prog 54 #[.agg #[.int .i64 75, .int .i64 rd, .int .i64 r1, .int .i64 r2, .int .i64 r3, .int .i64 rm, .int .i64 c, .int .i64 sz, .int .i64 i, .bool ui, .bool us, .bool wd]] w fun e w' => e = .returned (.tuple #[.int .u32 ((or32 (or32 (or32 (floB sz rd r1 r2) 1073741824) ((sz == 4).toNat * 1048576 % 4294967296)) (putN rm 12 3) : Nat) : Int), .bool true]) ∧ GN w w' := by
  obtain ⟨z, hz⟩ : ∃ z : Int, z = ((or32 (or32 (or32 (floB sz rd r1 r2) 1073741824) ((sz == 4).toNat * 1048576 % 4294967296)) (putN rm 12 3) : Nat) : Int) := ⟨_, rfl⟩
  rw [← hz]
  simp only [cvN, or32_cast, an7_cast, Int.natCast_mul, Int.natCast_emod, Int.cast_ofNat_Int, Bool.toNat_false, Bool.toNat_true] at hz
  have Hz := hide hz
  clear hz
  go_enter Try.func54, Try.ntmps54
  go_upto_region 1 with fail
  refine cutx1 (w := w) (x := #[.int .i64 75, .int .i64 rd, .int .i64 r1, .int .i64 r2, .int .i64 r3, .int .i64 rm, .int .i64 c, .int .i64 sz, .int .i64 i, .bool ui, .bool us, .bool wd]) ?_ ?_ fun W hgW hx => ?_
  · (repeat (first | with_reducible exact GN.refl _ | with_reducible assumption | (with_reducible refine GN.set ?_ ?_ _ _; rotate_left; · first | assumption | (simp; done)) | with_reducible refine GN.alloc ?_ _ | with_reducible refine GN.drewN ?_ _))
  · (repeat (first | with_reducible assumption | with_reducible apply hp_row12 | (with_reducible refine hp_last ?_; · simp) | (with_reducible refine hp_set ?_ ?_; · first | assumption | (simp; done)) | with_reducible refine hp_drewN ?_ | with_reducible refine hp_alloc ?_))
  refine wp_region_F (fun w_ => GN W w_) GN (fun k_ v_ w_ => match k_ with
      | 0 => v_ = .pointer (some ⟨w.heap.size, 7, none⟩)
      | 1 => v_ = .int .i64 sz
      | 2 => v_ = .int .i64 (IntKind.i64.wrap (Int.tdiv sz 8))
      | 3 => v_ = .int .u32 (IntKind.u32.wrap (IntKind.i64.wrap (Int.tdiv sz 8)))
      | 4 => v_ = .int .u32 (szI sz)
      | 5 => v_ = .int .u32 ((or32 83 (szN sz) : Nat) : Int)
      | 6 => v_ = .agg #[.int .i64 75, .int .i64 rd, .int .i64 r1, .int .i64 r2, .int .i64 r3, .int .i64 rm, .int .i64 c, .int .i64 sz, .int .i64 i, .bool ui, .bool us, .bool wd]
      | 7 => v_ = .int .u32 (rN rd r1 r2 : Nat)
      | 8 => v_ = .int .u32 (floB sz rd r1 r2 : Nat)
      | _ => v_ = .int .u32 (floB sz rd r1 r2 : Nat)) fol (by kernel_rfl) ?_ ?_ ?_ ?_
  · exact (GN.refl W).drew
  · intro k_ v_ w_ w2_ h1 hg
    split at h1 <;> exact h1
  · intro vals
    show wpG _ _ _ _ _ _ 0 (_ :: _) _
    refine wpG_cons (gval (.pointer (some ⟨w.heap.size, 7, none⟩)) GN.refl fun w_ hJ hd => ?_) ?_
    · exact ⟨by kernel_rfl, by kernel_rfl, rfl⟩
    refine wpG_cons (gop (Instr.loadAt 3 (.pointer (some ⟨w.heap.size, 7, none⟩))) (.int .i64 sz) GN.refl fun w_ hJ hd => ?_) ?_
    · have e0 : vals 0 = _ := hd 0 (by decide) (by kernel_rfl)
      rw [e0]
      exact ⟨by kernel_rfl, by kernel_rfl, run_load1 (by kernel_rfl) (c12 (GN.heap hJ hx)).2.2.2.2.2.2.2.1.1, rfl⟩
    refine wpG_cons (gval (.int .i64 (IntKind.i64.wrap (Int.tdiv sz 8))) GN.refl fun w_ hJ hd => ?_) ?_
    · have e1 : vals 1 = _ := hd 1 (by decide) (by kernel_rfl)
      rw [e1]
      exact ⟨by kernel_rfl, by kernel_rfl, rfl⟩
    refine wpG_cons (gval (.int .u32 (IntKind.u32.wrap (IntKind.i64.wrap (Int.tdiv sz 8)))) GN.refl fun w_ hJ hd => ?_) ?_
    · have e2 : vals 2 = _ := hd 2 (by decide) (by kernel_rfl)
      rw [e2]
      exact ⟨by kernel_rfl, by kernel_rfl, rfl⟩
    refine wpG_cons (gval (.int .u32 (szI sz)) GN.refl fun w_ hJ hd => ?_) ?_
    · have e3 : vals 3 = _ := hd 3 (by decide) (by kernel_rfl)
      rw [e3]
      exact ⟨by kernel_rfl, by kernel_rfl, rfl⟩
    refine wpG_cons (gop (binOp .or 22 (.int .u32 83) (.int .u32 (szI sz))) (.int .u32 ((or32 83 (szN sz) : Nat) : Int)) GN.refl fun w_ hJ hd => ?_) ?_
    · have e4 : vals 4 = _ := hd 4 (by decide) (by kernel_rfl)
      rw [e4]
      exact ⟨by kernel_rfl, by kernel_rfl, or_run83 sz w_, rfl⟩
    refine wpG_cons (gop (Instr.loadAt 25 (.pointer (some ⟨w.heap.size, 0, none⟩))) (.agg #[.int .i64 75, .int .i64 rd, .int .i64 r1, .int .i64 r2, .int .i64 r3, .int .i64 rm, .int .i64 c, .int .i64 sz, .int .i64 i, .bool ui, .bool us, .bool wd]) GN.refl fun w_ hJ hd => ?_) ?_
    · exact ⟨by kernel_rfl, by kernel_rfl, run_loadRow (GN.heap hJ hx), rfl⟩
    refine wpG_cons (gcall 51 #[.agg #[.int .i64 75, .int .i64 rd, .int .i64 r1, .int .i64 r2, .int .i64 r3, .int .i64 rm, .int .i64 c, .int .i64 sz, .int .i64 i, .bool ui, .bool us, .bool wd]] fun w_ hJ hd => ?_) ?_
    · have e6 : vals 6 = _ := hd 6 (by decide) (by kernel_rfl)
      rw [e6]
      exact ⟨by kernel_rfl, by kernel_rfl, (r_any _ _ _ _ _ _ _ _ _ hi _ _ _ w_).mono fun e w2 ⟨he, hq⟩ => ⟨_, he, GN.trans hJ hq, hq, rfl⟩⟩
    refine wpG_cons (gop (binOp .or 22 (.int .u32 ((or32 83 (szN sz) : Nat) : Int)) (.int .u32 (rN rd r1 r2 : Nat))) (.int .u32 (floB sz rd r1 r2 : Nat)) GN.refl fun w_ hJ hd => ?_) ?_
    · have e5 : vals 5 = _ := hd 5 (by decide) (by kernel_rfl)
      have e7 : vals 7 = _ := hd 7 (by decide) (by kernel_rfl)
      rw [e5, e7]
      exact ⟨by kernel_rfl, by kernel_rfl, or_run _ _ w_, rfl⟩
    refine wpG_cons (gval (.int .u32 (floB sz rd r1 r2 : Nat)) GN.refl fun w_ hJ hd => ?_) wpG_nil
    · have e8 : vals 8 = _ := hd 8 (by decide) (by kernel_rfl)
      rw [e8]
      exact ⟨by kernel_rfl, by kernel_rfl, rfl⟩
  intro vals w_ hJ hf
  have e0 : vals 0 = _ := hf 0 (by decide)
  have e1 : vals 1 = _ := hf 1 (by decide)
  have e2 : vals 2 = _ := hf 2 (by decide)
  have e3 : vals 3 = _ := hf 3 (by decide)
  have e4 : vals 4 = _ := hf 4 (by decide)
  have e5 : vals 5 = _ := hf 5 (by decide)
  have e6 : vals 6 = _ := hf 6 (by decide)
  have e7 : vals 7 = _ := hf 7 (by decide)
  have e8 : vals 8 = _ := hf 8 (by decide)
  have e9 : vals 9 = _ := hf 9 (by decide)
  simp only [fillG, Nat.zero_add, Nat.reduceAdd, e0, e1, e2, e3, e4, e5, e6, e7, e8, e9, Act.put, List.setIfInBounds_toArray, List.set_cons_succ, List.set_cons_zero]
  clear e0 e1 e2 e3 e4 e5 e6 e7 e8 e9 hf
  have hx4 := GN.heap hJ hx
  have hgW4 := GN.trans hgW hJ
  clear hgW hx hJ
  obtain ⟨⟨p0, q0⟩, ⟨p1, q1⟩, ⟨p2, q2⟩, ⟨p3, q3⟩, ⟨p4, q4⟩, ⟨p5, q5⟩, ⟨p6, q6⟩, ⟨p7, q7⟩, ⟨p8, q8⟩, ⟨p9, q9⟩, ⟨p10, q10⟩, ⟨p11, q11⟩⟩ := c12 hx4
  have W1 := lt_of_heap' hx4
  generalize hFB : floB sz rd r1 r2 = FB at *
  go_upto_region 3 with (go_at_call 46; refine (put_any _ _ _ (by decide) (by decide) _).mono ?_; rintro _ _ ⟨rfl, m_, rfl⟩)
  refine cutx1 (w := w) (GN.drewN hgW4 _) hx4 fun W5 hgW5 hx5 => ?_
  clear p0 q0 p1 q1 p2 q2 p3 q3 p4 q4 p5 q5 p6 q6 p7 q7 p8 q8 p9 q9 p10 q10 p11 q11 hgW4 hx4 W1
  obtain ⟨⟨p0, q0⟩, ⟨p1, q1⟩, ⟨p2, q2⟩, ⟨p3, q3⟩, ⟨p4, q4⟩, ⟨p5, q5⟩, ⟨p6, q6⟩, ⟨p7, q7⟩, ⟨p8, q8⟩, ⟨p9, q9⟩, ⟨p10, q10⟩, ⟨p11, q11⟩⟩ := c12 hx5
  have W1 := lt_of_heap' hx5
  go_quiet ((go_at_call 49; exact Calls.quiet_of (mark_any _ _)))
  go_wp2_with (first | (go_at_call 49; refine (mark_any _ _).mono ?_; rintro _ _ ⟨rfl, m_, rfl⟩) | (go_at_call 46; refine (put_any _ _ _ (by decide) (by decide) _).mono ?_; rintro _ _ ⟨rfl, m_, rfl⟩))
  go_ret2
  exact ⟨by rw [unhide Hz]; rfl, by (repeat (first | with_reducible exact GN.refl _ | with_reducible assumption | (with_reducible refine GN.set ?_ ?_ _ _; rotate_left; · first | assumption | (simp; done)) | with_reducible refine GN.alloc ?_ _ | with_reducible refine GN.drewN ?_ _))⟩

set_option maxRecDepth 100000 in
set_option maxHeartbeats 4000000 in
theorem flo_72 (rd r1 r2 r3 rm c sz i : Int) (hi : (Lit.int .i64 i).wf = true) (ui us wd : Bool) (w : World) : Calls Try.prog 54 #[.agg #[.int .i64 72, .int .i64 rd, .int .i64 r1, .int .i64 r2, .int .i64 r3, .int .i64 rm, .int .i64 c, .int .i64 sz, .int .i64 i, .bool ui, .bool us, .bool wd]] w fun e w' => e = .returned (.tuple #[.int .u32 ((or32 (or32 (floB sz rd r1 r2) 3758096384) 4096 : Nat) : Int), .bool true]) ∧ GN w w' := by
  obtain ⟨z, hz⟩ : ∃ z : Int, z = ((or32 (or32 (floB sz rd r1 r2) 3758096384) 4096 : Nat) : Int) := ⟨_, rfl⟩
  rw [← hz]
  simp only [cvN, or32_cast, an7_cast, Int.natCast_mul, Int.natCast_emod, Int.cast_ofNat_Int, Bool.toNat_false, Bool.toNat_true] at hz
  have Hz := hide hz
  clear hz
  go_enter Try.func54, Try.ntmps54
  go_upto_region 1 with fail
  refine cutx1 (w := w) (x := #[.int .i64 72, .int .i64 rd, .int .i64 r1, .int .i64 r2, .int .i64 r3, .int .i64 rm, .int .i64 c, .int .i64 sz, .int .i64 i, .bool ui, .bool us, .bool wd]) ?_ ?_ fun W hgW hx => ?_
  · (repeat (first | with_reducible exact GN.refl _ | with_reducible assumption | (with_reducible refine GN.set ?_ ?_ _ _; rotate_left; · first | assumption | (simp; done)) | with_reducible refine GN.alloc ?_ _ | with_reducible refine GN.drewN ?_ _))
  · (repeat (first | with_reducible assumption | with_reducible apply hp_row12 | (with_reducible refine hp_last ?_; · simp) | (with_reducible refine hp_set ?_ ?_; · first | assumption | (simp; done)) | with_reducible refine hp_drewN ?_ | with_reducible refine hp_alloc ?_))
  refine wp_region_F (fun w_ => GN W w_) GN (fun k_ v_ w_ => match k_ with
      | 0 => v_ = .pointer (some ⟨w.heap.size, 7, none⟩)
      | 1 => v_ = .int .i64 sz
      | 2 => v_ = .int .i64 (IntKind.i64.wrap (Int.tdiv sz 8))
      | 3 => v_ = .int .u32 (IntKind.u32.wrap (IntKind.i64.wrap (Int.tdiv sz 8)))
      | 4 => v_ = .int .u32 (szI sz)
      | 5 => v_ = .int .u32 ((or32 83 (szN sz) : Nat) : Int)
      | 6 => v_ = .agg #[.int .i64 72, .int .i64 rd, .int .i64 r1, .int .i64 r2, .int .i64 r3, .int .i64 rm, .int .i64 c, .int .i64 sz, .int .i64 i, .bool ui, .bool us, .bool wd]
      | 7 => v_ = .int .u32 (rN rd r1 r2 : Nat)
      | 8 => v_ = .int .u32 (floB sz rd r1 r2 : Nat)
      | _ => v_ = .int .u32 (floB sz rd r1 r2 : Nat)) fol (by kernel_rfl) ?_ ?_ ?_ ?_
  · exact (GN.refl W).drew
  · intro k_ v_ w_ w2_ h1 hg
    split at h1 <;> exact h1
  · intro vals
    show wpG _ _ _ _ _ _ 0 (_ :: _) _
    refine wpG_cons (gval (.pointer (some ⟨w.heap.size, 7, none⟩)) GN.refl fun w_ hJ hd => ?_) ?_
    · exact ⟨by kernel_rfl, by kernel_rfl, rfl⟩
    refine wpG_cons (gop (Instr.loadAt 3 (.pointer (some ⟨w.heap.size, 7, none⟩))) (.int .i64 sz) GN.refl fun w_ hJ hd => ?_) ?_
    · have e0 : vals 0 = _ := hd 0 (by decide) (by kernel_rfl)
      rw [e0]
      exact ⟨by kernel_rfl, by kernel_rfl, run_load1 (by kernel_rfl) (c12 (GN.heap hJ hx)).2.2.2.2.2.2.2.1.1, rfl⟩
    refine wpG_cons (gval (.int .i64 (IntKind.i64.wrap (Int.tdiv sz 8))) GN.refl fun w_ hJ hd => ?_) ?_
    · have e1 : vals 1 = _ := hd 1 (by decide) (by kernel_rfl)
      rw [e1]
      exact ⟨by kernel_rfl, by kernel_rfl, rfl⟩
    refine wpG_cons (gval (.int .u32 (IntKind.u32.wrap (IntKind.i64.wrap (Int.tdiv sz 8)))) GN.refl fun w_ hJ hd => ?_) ?_
    · have e2 : vals 2 = _ := hd 2 (by decide) (by kernel_rfl)
      rw [e2]
      exact ⟨by kernel_rfl, by kernel_rfl, rfl⟩
    refine wpG_cons (gval (.int .u32 (szI sz)) GN.refl fun w_ hJ hd => ?_) ?_
    · have e3 : vals 3 = _ := hd 3 (by decide) (by kernel_rfl)
      rw [e3]
      exact ⟨by kernel_rfl, by kernel_rfl, rfl⟩
    refine wpG_cons (gop (binOp .or 22 (.int .u32 83) (.int .u32 (szI sz))) (.int .u32 ((or32 83 (szN sz) : Nat) : Int)) GN.refl fun w_ hJ hd => ?_) ?_
    · have e4 : vals 4 = _ := hd 4 (by decide) (by kernel_rfl)
      rw [e4]
      exact ⟨by kernel_rfl, by kernel_rfl, or_run83 sz w_, rfl⟩
    refine wpG_cons (gop (Instr.loadAt 25 (.pointer (some ⟨w.heap.size, 0, none⟩))) (.agg #[.int .i64 72, .int .i64 rd, .int .i64 r1, .int .i64 r2, .int .i64 r3, .int .i64 rm, .int .i64 c, .int .i64 sz, .int .i64 i, .bool ui, .bool us, .bool wd]) GN.refl fun w_ hJ hd => ?_) ?_
    · exact ⟨by kernel_rfl, by kernel_rfl, run_loadRow (GN.heap hJ hx), rfl⟩
    refine wpG_cons (gcall 51 #[.agg #[.int .i64 72, .int .i64 rd, .int .i64 r1, .int .i64 r2, .int .i64 r3, .int .i64 rm, .int .i64 c, .int .i64 sz, .int .i64 i, .bool ui, .bool us, .bool wd]] fun w_ hJ hd => ?_) ?_
    · have e6 : vals 6 = _ := hd 6 (by decide) (by kernel_rfl)
      rw [e6]
      exact ⟨by kernel_rfl, by kernel_rfl, (r_any _ _ _ _ _ _ _ _ _ hi _ _ _ w_).mono fun e w2 ⟨he, hq⟩ => ⟨_, he, GN.trans hJ hq, hq, rfl⟩⟩
    refine wpG_cons (gop (binOp .or 22 (.int .u32 ((or32 83 (szN sz) : Nat) : Int)) (.int .u32 (rN rd r1 r2 : Nat))) (.int .u32 (floB sz rd r1 r2 : Nat)) GN.refl fun w_ hJ hd => ?_) ?_
    · have e5 : vals 5 = _ := hd 5 (by decide) (by kernel_rfl)
      have e7 : vals 7 = _ := hd 7 (by decide) (by kernel_rfl)
      rw [e5, e7]
      exact ⟨by kernel_rfl, by kernel_rfl, or_run _ _ w_, rfl⟩
    refine wpG_cons (gval (.int .u32 (floB sz rd r1 r2 : Nat)) GN.refl fun w_ hJ hd => ?_) wpG_nil
    · have e8 : vals 8 = _ := hd 8 (by decide) (by kernel_rfl)
      rw [e8]
      exact ⟨by kernel_rfl, by kernel_rfl, rfl⟩
  intro vals w_ hJ hf
  have e0 : vals 0 = _ := hf 0 (by decide)
  have e1 : vals 1 = _ := hf 1 (by decide)
  have e2 : vals 2 = _ := hf 2 (by decide)
  have e3 : vals 3 = _ := hf 3 (by decide)
  have e4 : vals 4 = _ := hf 4 (by decide)
  have e5 : vals 5 = _ := hf 5 (by decide)
  have e6 : vals 6 = _ := hf 6 (by decide)
  have e7 : vals 7 = _ := hf 7 (by decide)
  have e8 : vals 8 = _ := hf 8 (by decide)
  have e9 : vals 9 = _ := hf 9 (by decide)
  simp only [fillG, Nat.zero_add, Nat.reduceAdd, e0, e1, e2, e3, e4, e5, e6, e7, e8, e9, Act.put, List.setIfInBounds_toArray, List.set_cons_succ, List.set_cons_zero]
  clear e0 e1 e2 e3 e4 e5 e6 e7 e8 e9 hf
  have hx4 := GN.heap hJ hx
  have hgW4 := GN.trans hgW hJ
  clear hgW hx hJ
  obtain ⟨⟨p0, q0⟩, ⟨p1, q1⟩, ⟨p2, q2⟩, ⟨p3, q3⟩, ⟨p4, q4⟩, ⟨p5, q5⟩, ⟨p6, q6⟩, ⟨p7, q7⟩, ⟨p8, q8⟩, ⟨p9, q9⟩, ⟨p10, q10⟩, ⟨p11, q11⟩⟩ := c12 hx4
  have W1 := lt_of_heap' hx4
  generalize hFB : floB sz rd r1 r2 = FB at *
  go_upto_region 3 with (go_at_call 46; refine (put_any _ _ _ (by decide) (by decide) _).mono ?_; rintro _ _ ⟨rfl, m_, rfl⟩)
  refine cutx1 (w := w) (GN.drewN hgW4 _) hx4 fun W5 hgW5 hx5 => ?_
  clear p0 q0 p1 q1 p2 q2 p3 q3 p4 q4 p5 q5 p6 q6 p7 q7 p8 q8 p9 q9 p10 q10 p11 q11 hgW4 hx4 W1
  obtain ⟨⟨p0, q0⟩, ⟨p1, q1⟩, ⟨p2, q2⟩, ⟨p3, q3⟩, ⟨p4, q4⟩, ⟨p5, q5⟩, ⟨p6, q6⟩, ⟨p7, q7⟩, ⟨p8, q8⟩, ⟨p9, q9⟩, ⟨p10, q10⟩, ⟨p11, q11⟩⟩ := c12 hx5
  have W1 := lt_of_heap' hx5
  go_quiet ((go_at_call 49; exact Calls.quiet_of (mark_any _ _)))
  go_wp2_with (first | (go_at_call 49; refine (mark_any _ _).mono ?_; rintro _ _ ⟨rfl, m_, rfl⟩) | (go_at_call 46; refine (put_any _ _ _ (by decide) (by decide) _).mono ?_; rintro _ _ ⟨rfl, m_, rfl⟩))
  go_ret2
  exact ⟨by rw [unhide Hz]; rfl, by (repeat (first | with_reducible exact GN.refl _ | with_reducible assumption | (with_reducible refine GN.set ?_ ?_ _ _; rotate_left; · first | assumption | (simp; done)) | with_reducible refine GN.alloc ?_ _ | with_reducible refine GN.drewN ?_ _))⟩
end Go.Proofs.Ytopbdiekfhikmaa
