/- Layer 3: leaves. -/
import Derived.Test.YtopbdiekfhikmaaE5
namespace Go.Proofs.Ytopbdiekfhikmaa
open Go.RowKit
set_option maxRecDepth 100000 in
set_option maxHeartbeats 4000000 in
theorem form_1 (rd r1 r2 r3 rm c sz i : Int) (hi : (Lit.int .i64 i).wf = true) (hz : (Lit.int .i64 sz).wf = true) (ui : Bool) (us wd : Bool) (w : World) : Calls Try.prog 33 #[.agg #[.int .i64 1, .int .i64 rd, .int .i64 r1, .int .i64 r2, .int .i64 r3, .int .i64 rm, .int .i64 c, .int .i64 sz, .int .i64 i, .bool ui, .bool us, .bool wd]] w fun e w' => e = .returned (.tuple #[.int .u32 ((or32 (or32 (55) (putN rd 7 5)) (an12 i) : Nat) : Int), .bool true]) ∧ GN w w' := by
  obtain ⟨z, hz⟩ : ∃ z : Int, z = ((or32 (or32 (55) (putN rd 7 5)) (an12 i) : Nat) : Int) := ⟨_, rfl⟩
  rw [← hz]
  simp only [or32_cast, an12_cast, Int.natCast_mul, Int.natCast_emod, Int.cast_ofNat_Int] at hz
  have Hz := hide hz
  clear hz
  have hi2 := i64' hi
  go_enter Try.func33, Try.ntmps33
  go_upto_region 2 with (first | (go_at_call 21; refine (branches_ab _).mono ?_; rintro _ _ ⟨B, hB, rfl, o_, rfl⟩) | (go_at_call 38; refine (atomics_ab _).mono ?_; rintro _ _ ⟨A, hA, rfl, o_, rfl⟩) | (refine wpL_store_row rfl 38 (.tmp 4) (.tmp 12) rfl _ B rfl rfl 38 #[.int .i64 0, .int .i64 0, .int .i64 0, .int .i64 0, .int .i64 0, .int .i64 0, .int .i64 0, .int .i64 0] ?_ (info38 hB).1 (info38 hB).2.1 (info38 hB).2.2 ?_; · exact hp_alloc (hp_last (by simp))) | (refine wpL_store_row rfl 52 (.tmp 5) (.tmp 13) rfl _ A rfl rfl 52 #[.int .i64 0, .int .i64 0, .int .i64 0, .int .i64 0, .int .i64 0, .int .i64 0, .int .i64 0, .int .i64 0, .int .i64 0, .int .i64 0, .int .i64 0, .int .i64 0, .int .i64 0, .int .i64 0, .int .i64 0, .int .i64 0, .int .i64 0, .int .i64 0, .int .i64 0, .int .i64 0, .int .i64 0, .int .i64 0, .int .i64 0, .int .i64 0, .int .i64 0, .int .i64 0, .int .i64 0, .int .i64 0, .int .i64 0, .int .i64 0, .int .i64 0, .int .i64 0] ?_ (info52 hA).1 (info52 hA).2.1 (info52 hA).2.2 ?_; · exact row_ne (by omega) (hp_last (by simp))))
  with_reducible refine form_start fun W hgW hx h5 h6 => ?_
  generalize hg5 : w.heap.size + 1 + 1 + 1 = g5 at *
  generalize hg6 : g5 + 1 = g6 at *
  clear hg5 hg6
  have W1 := lt_of_heap' hx
  have W2 := lt_of_heap' h5
  have W3 := lt_of_heap' h6
  obtain ⟨⟨p0, q0⟩, ⟨p1, q1⟩, ⟨p2, q2⟩, ⟨p3, q3⟩, ⟨p4, q4⟩, ⟨p5, q5⟩, ⟨p6, q6⟩, ⟨p7, q7⟩, ⟨p8, q8⟩, ⟨p9, q9⟩, ⟨p10, q10⟩, ⟨p11, q11⟩⟩ := c12 hx
  go_upto_region 4 with fail
  go_quiet ((go_at_call 46; exact Calls.quiet_of (put_any _ _ _ (by decide) (by decide) _)))
  go_wp2
  go_ret2
  exact ⟨by rw [unhide Hz]; rfl, by (repeat (first | with_reducible exact GN.refl _ | with_reducible assumption | (with_reducible refine GN.set ?_ ?_ _ _; rotate_left; · first | assumption | (simp; done)) | with_reducible refine GN.alloc ?_ _ | with_reducible refine GN.drewN ?_ _))⟩

set_option maxRecDepth 100000 in
set_option maxHeartbeats 4000000 in
theorem form_11 (rd r1 r2 r3 rm c sz i : Int) (hi : (Lit.int .i64 i).wf = true) (hz : (Lit.int .i64 sz).wf = true) (ui : Bool) (us wd : Bool) (w : World) : Calls Try.prog 33 #[.agg #[.int .i64 11, .int .i64 rd, .int .i64 r1, .int .i64 r2, .int .i64 r3, .int .i64 rm, .int .i64 c, .int .i64 sz, .int .i64 i, .bool ui, .bool us, .bool wd]] w fun e w' => e = .returned (.tuple #[.int .u32 ((or32 (or32 (or32 (3) (logN sz * 4096 % 4294967296)) (us.toNat * 16384 % 4294967296)) (iN rd r1 i) : Nat) : Int), .bool true]) ∧ GN w w' := by
  obtain ⟨hs1, hs2⟩ := i64' hz
  go_enter Try.func33, Try.ntmps33
  go_upto_region 2 with (first | (go_at_call 21; refine (branches_ab _).mono ?_; rintro _ _ ⟨B, hB, rfl, o_, rfl⟩) | (go_at_call 38; refine (atomics_ab _).mono ?_; rintro _ _ ⟨A, hA, rfl, o_, rfl⟩) | (refine wpL_store_row rfl 38 (.tmp 4) (.tmp 12) rfl _ B rfl rfl 38 #[.int .i64 0, .int .i64 0, .int .i64 0, .int .i64 0, .int .i64 0, .int .i64 0, .int .i64 0, .int .i64 0] ?_ (info38 hB).1 (info38 hB).2.1 (info38 hB).2.2 ?_; · exact hp_alloc (hp_last (by simp))) | (refine wpL_store_row rfl 52 (.tmp 5) (.tmp 13) rfl _ A rfl rfl 52 #[.int .i64 0, .int .i64 0, .int .i64 0, .int .i64 0, .int .i64 0, .int .i64 0, .int .i64 0, .int .i64 0, .int .i64 0, .int .i64 0, .int .i64 0, .int .i64 0, .int .i64 0, .int .i64 0, .int .i64 0, .int .i64 0, .int .i64 0, .int .i64 0, .int .i64 0, .int .i64 0, .int .i64 0, .int .i64 0, .int .i64 0, .int .i64 0, .int .i64 0, .int .i64 0, .int .i64 0, .int .i64 0, .int .i64 0, .int .i64 0, .int .i64 0, .int .i64 0] ?_ (info52 hA).1 (info52 hA).2.1 (info52 hA).2.2 ?_; · exact row_ne (by omega) (hp_last (by simp))))
  with_reducible refine form_start fun W hgW hx h5 h6 => ?_
  generalize hg5 : w.heap.size + 1 + 1 + 1 = g5 at *
  generalize hg6 : g5 + 1 = g6 at *
  clear hg5 hg6
  have W1 := lt_of_heap' hx
  have W2 := lt_of_heap' h5
  have W3 := lt_of_heap' h6
  obtain ⟨⟨p0, q0⟩, ⟨p1, q1⟩, ⟨p2, q2⟩, ⟨p3, q3⟩, ⟨p4, q4⟩, ⟨p5, q5⟩, ⟨p6, q6⟩, ⟨p7, q7⟩, ⟨p8, q8⟩, ⟨p9, q9⟩, ⟨p10, q10⟩, ⟨p11, q11⟩⟩ := c12 hx
  go_upto_region 12 with fail
  clear p0 q0 p1 q1 p2 q2 p3 q3 p4 q4 p5 q5 p6 q6 p7 q7 p8 q8 p9 q9 p10 q10 p11 q11
  refine wp_region_F (fun w_ => GN W w_) GN (fun k_ v_ w_ => match k_ with
      | 0 => v_ = .pointer (some ⟨w.heap.size, 7, none⟩)
      | 1 => v_ = .int .i64 sz
      | 2 => v_ = .int .u32 ((logN sz : Nat) : Int)
      | 3 => v_ = .int .u32 ((logN sz * 4096 % 4294967296 : Nat) : Int)
      | 4 => v_ = .int .u32 ((or32 (3) (logN sz * 4096 % 4294967296) : Nat) : Int)
      | 5 => v_ = .pointer (some ⟨w.heap.size, 10, none⟩)
      | 6 => v_ = .bool us
      | 7 => v_ = .int .u32 ((us.toNat : Nat) : Int)
      | 8 => v_ = .int .u32 ((us.toNat * 16384 % 4294967296 : Nat) : Int)
      | 9 => v_ = .int .u32 ((or32 (or32 (3) (logN sz * 4096 % 4294967296)) (us.toNat * 16384 % 4294967296) : Nat) : Int)
      | 10 => v_ = .agg #[.int .i64 11, .int .i64 rd, .int .i64 r1, .int .i64 r2, .int .i64 r3, .int .i64 rm, .int .i64 c, .int .i64 sz, .int .i64 i, .bool ui, .bool us, .bool wd]
      | 11 => v_ = .int .u32 ((iN rd r1 i : Nat) : Int)
      | 12 => v_ = .int .u32 ((or32 (or32 (or32 (3) (logN sz * 4096 % 4294967296)) (us.toNat * 16384 % 4294967296)) (iN rd r1 i) : Nat) : Int)
      | 13 => v_ = .int .u32 ((or32 (or32 (or32 (3) (logN sz * 4096 % 4294967296)) (us.toNat * 16384 % 4294967296)) (iN rd r1 i) : Nat) : Int)
      | _ => v_ = .bool true) fol (by kernel_rfl) ?_ ?_ ?_ ?_
  · exact (GN.refl W).drew
  · intro k_ v_ w_ w2_ h1 hg
    split at h1 <;> exact h1
  · intro vals
    show wpG _ _ _ _ _ _ 0 (_ :: _) _
    refine wpG_cons (gval (.pointer (some ⟨w.heap.size, 7, none⟩)) GN.refl fun w_ hJ hd => ?_) ?_
    · exact ⟨by kernel_rfl, by kernel_rfl, rfl⟩
    refine wpG_cons (gop (Instr.loadAt 3 (.pointer (some ⟨w.heap.size, 7, none⟩))) (.int .i64 sz) GN.refl fun w_ hJ hd => ?_) ?_
    · have e0 : vals 0 = _ := hd 0 (by decide) (by kernel_rfl)
      rw [e0]
      exact ⟨by kernel_rfl, by kernel_rfl, run_load1 (by kernel_rfl) (c12 (GN.heap hJ hx)).2.2.2.2.2.2.2.1.1, rfl⟩
    refine wpG_cons (gcall 48 #[.int .i64 sz] fun w_ hJ hd => ?_) ?_
    · have e1 : vals 1 = _ := hd 1 (by decide) (by kernel_rfl)
      rw [e1]
      exact ⟨by kernel_rfl, by kernel_rfl, (log_any sz hs1 hs2 w_).mono fun e w2 ⟨he, m, hw⟩ => ⟨_, he, by subst hw; exact hJ.drewN _, by subst hw; exact (GN.refl w_).drewN _, rfl⟩⟩
    refine wpG_cons (gop (binOp .shl 22 (.int .u32 ((logN sz : Nat) : Int)) (.int .u64 12)) (.int .u32 ((logN sz * 4096 % 4294967296 : Nat) : Int)) GN.refl fun w_ hJ hd => ?_) ?_
    · have e2 : vals 2 = _ := hd 2 (by decide) (by kernel_rfl)
      rw [e2]
      exact ⟨by kernel_rfl, by kernel_rfl, shl12 (logN sz) w_, rfl⟩
    refine wpG_cons (gop (binOp .or 22 (.int .u32 3) (.int .u32 ((logN sz * 4096 % 4294967296 : Nat) : Int))) (.int .u32 ((or32 (3) (logN sz * 4096 % 4294967296) : Nat) : Int)) GN.refl fun w_ hJ hd => ?_) ?_
    · have e3 : vals 3 = _ := hd 3 (by decide) (by kernel_rfl)
      rw [e3]
      exact ⟨by kernel_rfl, by kernel_rfl, or_run 3 (logN sz * 4096 % 4294967296) w_, rfl⟩
    refine wpG_cons (gval (.pointer (some ⟨w.heap.size, 10, none⟩)) GN.refl fun w_ hJ hd => ?_) ?_
    · exact ⟨by kernel_rfl, by kernel_rfl, rfl⟩
    refine wpG_cons (gop (Instr.loadAt 4 (.pointer (some ⟨w.heap.size, 10, none⟩))) (.bool us) GN.refl fun w_ hJ hd => ?_) ?_
    · have e5 : vals 5 = _ := hd 5 (by decide) (by kernel_rfl)
      rw [e5]
      exact ⟨by kernel_rfl, by kernel_rfl, run_load1 (by kernel_rfl) (c12 (GN.heap hJ hx)).2.2.2.2.2.2.2.2.2.2.1.1, rfl⟩
    refine wpG_cons (gcall 49 #[.bool us] fun w_ hJ hd => ?_) ?_
    · have e6 : vals 6 = _ := hd 6 (by decide) (by kernel_rfl)
      rw [e6]
      exact ⟨by kernel_rfl, by kernel_rfl, (mark_any us w_).mono fun e w2 ⟨he, m, hw⟩ => ⟨_, he, by subst hw; exact hJ.drewN _, by subst hw; exact (GN.refl w_).drewN _, rfl⟩⟩
    refine wpG_cons (gop (binOp .shl 22 (.int .u32 ((us.toNat : Nat) : Int)) (.int .u64 14)) (.int .u32 ((us.toNat * 16384 % 4294967296 : Nat) : Int)) GN.refl fun w_ hJ hd => ?_) ?_
    · have e7 : vals 7 = _ := hd 7 (by decide) (by kernel_rfl)
      rw [e7]
      exact ⟨by kernel_rfl, by kernel_rfl, shl14 us.toNat w_, rfl⟩
    refine wpG_cons (gop (binOp .or 22 (.int .u32 ((or32 (3) (logN sz * 4096 % 4294967296) : Nat) : Int)) (.int .u32 ((us.toNat * 16384 % 4294967296 : Nat) : Int))) (.int .u32 ((or32 (or32 (3) (logN sz * 4096 % 4294967296)) (us.toNat * 16384 % 4294967296) : Nat) : Int)) GN.refl fun w_ hJ hd => ?_) ?_
    · have e4 : vals 4 = _ := hd 4 (by decide) (by kernel_rfl)
      have e8 : vals 8 = _ := hd 8 (by decide) (by kernel_rfl)
      rw [e4, e8]
      exact ⟨by kernel_rfl, by kernel_rfl, or_run _ _ w_, rfl⟩
    refine wpG_cons (gop (Instr.loadAt 25 (.pointer (some ⟨w.heap.size, 0, none⟩))) (.agg #[.int .i64 11, .int .i64 rd, .int .i64 r1, .int .i64 r2, .int .i64 r3, .int .i64 rm, .int .i64 c, .int .i64 sz, .int .i64 i, .bool ui, .bool us, .bool wd]) GN.refl fun w_ hJ hd => ?_) ?_
    · exact ⟨by kernel_rfl, by kernel_rfl, run_loadRow (GN.heap hJ hx), rfl⟩
    refine wpG_cons (gcall 47 #[.agg #[.int .i64 11, .int .i64 rd, .int .i64 r1, .int .i64 r2, .int .i64 r3, .int .i64 rm, .int .i64 c, .int .i64 sz, .int .i64 i, .bool ui, .bool us, .bool wd]] fun w_ hJ hd => ?_) ?_
    · have e10 : vals 10 = _ := hd 10 (by decide) (by kernel_rfl)
      rw [e10]
      exact ⟨by kernel_rfl, by kernel_rfl, (i_any _ _ _ _ _ _ _ _ _ hi _ _ _ w_).mono fun e w2 ⟨he, hq⟩ => ⟨_, he, GN.trans hJ hq, hq, rfl⟩⟩
    refine wpG_cons (gop (binOp .or 22 (.int .u32 ((or32 (or32 (3) (logN sz * 4096 % 4294967296)) (us.toNat * 16384 % 4294967296) : Nat) : Int)) (.int .u32 ((iN rd r1 i : Nat) : Int))) (.int .u32 ((or32 (or32 (or32 (3) (logN sz * 4096 % 4294967296)) (us.toNat * 16384 % 4294967296)) (iN rd r1 i) : Nat) : Int)) GN.refl fun w_ hJ hd => ?_) ?_
    · have e9 : vals 9 = _ := hd 9 (by decide) (by kernel_rfl)
      have e11 : vals 11 = _ := hd 11 (by decide) (by kernel_rfl)
      rw [e9, e11]
      exact ⟨by kernel_rfl, by kernel_rfl, or_run _ _ w_, rfl⟩
    refine wpG_cons (gval (.int .u32 ((or32 (or32 (or32 (3) (logN sz * 4096 % 4294967296)) (us.toNat * 16384 % 4294967296)) (iN rd r1 i) : Nat) : Int)) GN.refl fun w_ hJ hd => ?_) ?_
    · have e12 : vals 12 = _ := hd 12 (by decide) (by kernel_rfl)
      rw [e12]
      exact ⟨by kernel_rfl, by kernel_rfl, rfl⟩
    refine wpG_cons (gval (.bool true) GN.refl fun w_ hJ hd => ?_) wpG_nil
    · exact ⟨by kernel_rfl, by kernel_rfl, rfl⟩
  intro vals w_ hJ hf
  have e0 : vals 0 = _ := hf 0 (by decide)
  have e1 : vals 1 = _ := hf 1 (by decide)
  have e2 : vals 2 = _ := hf 2 (by decide)
  have e3 : vals 3 = _ := hf 3 (by decide)
  have e4 : vals 4 = _ := hf 4 (by decide)
  have e5 : vals 5 = _ := hf 5 (by decide)
  have e6 : vals 6 = _ := hf 6 (by decide)
  have e7 : vals 7 = _ := hf 7 (by decide)
  have e8 : vals 8 = _ := hf 8 (by decide)
  have e9 : vals 9 = _ := hf 9 (by decide)
  have e10 : vals 10 = _ := hf 10 (by decide)
  have e11 : vals 11 = _ := hf 11 (by decide)
  have e12 : vals 12 = _ := hf 12 (by decide)
  have e13 : vals 13 = _ := hf 13 (by decide)
  have e14 : vals 14 = _ := hf 14 (by decide)
  simp only [fillG, Nat.zero_add, Nat.reduceAdd, e0, e1, e2, e3, e4, e5, e6, e7, e8, e9, e10, e11, e12, e13, e14, Act.put, List.setIfInBounds_toArray, List.set_cons_succ, List.set_cons_zero]
  clear e0 e1 e2 e3 e4 e5 e6 e7 e8 e9 e10 e11 e12 e13 e14 hf
  have hgn := GN.trans hgW hJ
  go_wp2
  go_ret2
  exact ⟨rfl, by (repeat (first | with_reducible exact GN.refl _ | with_reducible assumption | (with_reducible refine GN.set ?_ ?_ _ _; rotate_left; · first | assumption | (simp; done)) | with_reducible refine GN.alloc ?_ _ | with_reducible refine GN.drewN ?_ _))⟩

set_option maxRecDepth 100000 in
set_option maxHeartbeats 4000000 in
theorem form_31 (rd r1 r2 r3 rm c sz i : Int) (hi : (Lit.int .i64 i).wf = true) (hz : (Lit.int .i64 sz).wf = true) (ui : Bool) (us wd : Bool) (w : World) : Calls Try.prog 33 #[.agg #[.int .i64 31, .int .i64 rd, .int .i64 r1, .int .i64 r2, .int .i64 r3, .int .i64 rm, .int .i64 c, .int .i64 sz, .int .i64 i, .bool ui, .bool us, .bool wd]] w fun e w' => e = .returned (.tuple #[.int .u32 ((15 : Nat) : Int), .bool true]) ∧ GN w w' := by
  obtain ⟨z, hz⟩ : ∃ z : Int, z = ((15 : Nat) : Int) := ⟨_, rfl⟩
  rw [← hz]
  simp only [or32_cast, an12_cast, Int.natCast_mul, Int.natCast_emod, Int.cast_ofNat_Int] at hz
  have Hz := hide hz
  clear hz
  go_enter Try.func33, Try.ntmps33
  go_upto_region 2 with (first | (go_at_call 21; refine (branches_ab _).mono ?_; rintro _ _ ⟨B, hB, rfl, o_, rfl⟩) | (go_at_call 38; refine (atomics_ab _).mono ?_; rintro _ _ ⟨A, hA, rfl, o_, rfl⟩) | (refine wpL_store_row rfl 38 (.tmp 4) (.tmp 12) rfl _ B rfl rfl 38 #[.int .i64 0, .int .i64 0, .int .i64 0, .int .i64 0, .int .i64 0, .int .i64 0, .int .i64 0, .int .i64 0] ?_ (info38 hB).1 (info38 hB).2.1 (info38 hB).2.2 ?_; · exact hp_alloc (hp_last (by simp))) | (refine wpL_store_row rfl 52 (.tmp 5) (.tmp 13) rfl _ A rfl rfl 52 #[.int .i64 0, .int .i64 0, .int .i64 0, .int .i64 0, .int .i64 0, .int .i64 0, .int .i64 0, .int .i64 0, .int .i64 0, .int .i64 0, .int .i64 0, .int .i64 0, .int .i64 0, .int .i64 0, .int .i64 0, .int .i64 0, .int .i64 0, .int .i64 0, .int .i64 0, .int .i64 0, .int .i64 0, .int .i64 0, .int .i64 0, .int .i64 0, .int .i64 0, .int .i64 0, .int .i64 0, .int .i64 0, .int .i64 0, .int .i64 0, .int .i64 0, .int .i64 0] ?_ (info52 hA).1 (info52 hA).2.1 (info52 hA).2.2 ?_; · exact row_ne (by omega) (hp_last (by simp))))
  with_reducible refine form_start fun W hgW hx h5 h6 => ?_
  generalize hg5 : w.heap.size + 1 + 1 + 1 = g5 at *
  generalize hg6 : g5 + 1 = g6 at *
  clear hg5 hg6
  have W1 := lt_of_heap' hx
  have W2 := lt_of_heap' h5
  have W3 := lt_of_heap' h6
  obtain ⟨⟨p0, q0⟩, ⟨p1, q1⟩, ⟨p2, q2⟩, ⟨p3, q3⟩, ⟨p4, q4⟩, ⟨p5, q5⟩, ⟨p6, q6⟩, ⟨p7, q7⟩, ⟨p8, q8⟩, ⟨p9, q9⟩, ⟨p10, q10⟩, ⟨p11, q11⟩⟩ := c12 hx
  go_wp2
  go_ret2
  exact ⟨by rw [unhide Hz]; rfl, by (repeat (first | with_reducible exact GN.refl _ | with_reducible assumption | (with_reducible refine GN.set ?_ ?_ _ _; rotate_left; · first | assumption | (simp; done)) | with_reducible refine GN.alloc ?_ _ | with_reducible refine GN.drewN ?_ _))⟩

set_option maxRecDepth 100000 in
set_option maxHeartbeats 4000000 in
theorem form_50 (rd r1 r2 r3 rm c sz i : Int) (hi : (Lit.int .i64 i).wf = true) (hz : (Lit.int .i64 sz).wf = true) (ui : Bool) (us wd : Bool) (w : World) : Calls Try.prog 33 #[.agg #[.int .i64 50, .int .i64 rd, .int .i64 r1, .int .i64 r2, .int .i64 r3, .int .i64 rm, .int .i64 c, .int .i64 sz, .int .i64 i, .bool ui, .bool us, .bool wd]] w fun e w' => e = .returned (.tuple #[.int .u32 ((270532723 : Nat) : Int), .bool true]) ∧ GN w w' := by
  obtain ⟨z, hz⟩ : ∃ z : Int, z = ((270532723 : Nat) : Int) := ⟨_, rfl⟩
  rw [← hz]
  simp only [or32_cast, an12_cast, Int.natCast_mul, Int.natCast_emod, Int.cast_ofNat_Int] at hz
  have Hz := hide hz
  clear hz
  go_enter Try.func33, Try.ntmps33
  go_upto_region 2 with (first | (go_at_call 21; refine (branches_ab _).mono ?_; rintro _ _ ⟨B, hB, rfl, o_, rfl⟩) | (go_at_call 38; refine (atomics_ab _).mono ?_; rintro _ _ ⟨A, hA, rfl, o_, rfl⟩) | (refine wpL_store_row rfl 38 (.tmp 4) (.tmp 12) rfl _ B rfl rfl 38 #[.int .i64 0, .int .i64 0, .int .i64 0, .int .i64 0, .int .i64 0, .int .i64 0, .int .i64 0, .int .i64 0] ?_ (info38 hB).1 (info38 hB).2.1 (info38 hB).2.2 ?_; · exact hp_alloc (hp_last (by simp))) | (refine wpL_store_row rfl 52 (.tmp 5) (.tmp 13) rfl _ A rfl rfl 52 #[.int .i64 0, .int .i64 0, .int .i64 0, .int .i64 0, .int .i64 0, .int .i64 0, .int .i64 0, .int .i64 0, .int .i64 0, .int .i64 0, .int .i64 0, .int .i64 0, .int .i64 0, .int .i64 0, .int .i64 0, .int .i64 0, .int .i64 0, .int .i64 0, .int .i64 0, .int .i64 0, .int .i64 0, .int .i64 0, .int .i64 0, .int .i64 0, .int .i64 0, .int .i64 0, .int .i64 0, .int .i64 0, .int .i64 0, .int .i64 0, .int .i64 0, .int .i64 0] ?_ (info52 hA).1 (info52 hA).2.1 (info52 hA).2.2 ?_; · exact row_ne (by omega) (hp_last (by simp))))
  with_reducible refine form_start fun W hgW hx h5 h6 => ?_
  generalize hg5 : w.heap.size + 1 + 1 + 1 = g5 at *
  generalize hg6 : g5 + 1 = g6 at *
  clear hg5 hg6
  have W1 := lt_of_heap' hx
  have W2 := lt_of_heap' h5
  have W3 := lt_of_heap' h6
  obtain ⟨⟨p0, q0⟩, ⟨p1, q1⟩, ⟨p2, q2⟩, ⟨p3, q3⟩, ⟨p4, q4⟩, ⟨p5, q5⟩, ⟨p6, q6⟩, ⟨p7, q7⟩, ⟨p8, q8⟩, ⟨p9, q9⟩, ⟨p10, q10⟩, ⟨p11, q11⟩⟩ := c12 hx
  go_wp2
  go_ret2
  exact ⟨by rw [unhide Hz]; rfl, by (repeat (first | with_reducible exact GN.refl _ | with_reducible assumption | (with_reducible refine GN.set ?_ ?_ _ _; rotate_left; · first | assumption | (simp; done)) | with_reducible refine GN.alloc ?_ _ | with_reducible refine GN.drewN ?_ _))⟩

set_option maxRecDepth 100000 in
set_option maxHeartbeats 4000000 in
theorem form_35f (rd r1 r2 r3 rm c sz i : Int) (hi : (Lit.int .i64 i).wf = true) (hz : (Lit.int .i64 sz).wf = true) (us wd : Bool) (w : World) : Calls Try.prog 33 #[.agg #[.int .i64 35, .int .i64 rd, .int .i64 r1, .int .i64 r2, .int .i64 r3, .int .i64 rm, .int .i64 c, .int .i64 sz, .int .i64 i, .bool false, .bool us, .bool wd]] w fun e w' => e = .returned (.tuple #[.int .u32 ((or32 (or32 (or32 (or32 (115) (4096)) (putN rd 7 5)) (putN r1 15 5)) (putN c 20 12) : Nat) : Int), .bool true]) ∧ GN w w' := by
  obtain ⟨z, hz⟩ : ∃ z : Int, z = ((or32 (or32 (or32 (or32 (115) (4096)) (putN rd 7 5)) (putN r1 15 5)) (putN c 20 12) : Nat) : Int) := ⟨_, rfl⟩
  rw [← hz]
  simp only [or32_cast, an12_cast, Int.natCast_mul, Int.natCast_emod, Int.cast_ofNat_Int] at hz
  have Hz := hide hz
  clear hz
  go_enter Try.func33, Try.ntmps33
  go_upto_region 2 with (first | (go_at_call 21; refine (branches_ab _).mono ?_; rintro _ _ ⟨B, hB, rfl, o_, rfl⟩) | (go_at_call 38; refine (atomics_ab _).mono ?_; rintro _ _ ⟨A, hA, rfl, o_, rfl⟩) | (refine wpL_store_row rfl 38 (.tmp 4) (.tmp 12) rfl _ B rfl rfl 38 #[.int .i64 0, .int .i64 0, .int .i64 0, .int .i64 0, .int .i64 0, .int .i64 0, .int .i64 0, .int .i64 0] ?_ (info38 hB).1 (info38 hB).2.1 (info38 hB).2.2 ?_; · exact hp_alloc (hp_last (by simp))) | (refine wpL_store_row rfl 52 (.tmp 5) (.tmp 13) rfl _ A rfl rfl 52 #[.int .i64 0, .int .i64 0, .int .i64 0, .int .i64 0, .int .i64 0, .int .i64 0, .int .i64 0, .int .i64 0, .int .i64 0, .int .i64 0, .int .i64 0, .int .i64 0, .int .i64 0, .int .i64 0, .int .i64 0, .int .i64 0, .int .i64 0, .int .i64 0, .int .i64 0, .int .i64 0, .int .i64 0, .int .i64 0, .int .i64 0, .int .i64 0, .int .i64 0, .int .i64 0, .int .i64 0, .int .i64 0, .int .i64 0, .int .i64 0, .int .i64 0, .int .i64 0] ?_ (info52 hA).1 (info52 hA).2.1 (info52 hA).2.2 ?_; · exact row_ne (by omega) (hp_last (by simp))))
  with_reducible refine form_start fun W hgW hx h5 h6 => ?_
  generalize hg5 : w.heap.size + 1 + 1 + 1 = g5 at *
  generalize hg6 : g5 + 1 = g6 at *
  clear hg5 hg6
  have W1 := lt_of_heap' hx
  have W2 := lt_of_heap' h5
  have W3 := lt_of_heap' h6
  obtain ⟨⟨p0, q0⟩, ⟨p1, q1⟩, ⟨p2, q2⟩, ⟨p3, q3⟩, ⟨p4, q4⟩, ⟨p5, q5⟩, ⟨p6, q6⟩, ⟨p7, q7⟩, ⟨p8, q8⟩, ⟨p9, q9⟩, ⟨p10, q10⟩, ⟨p11, q11⟩⟩ := c12 hx
  go_upto_region 37 with fail
  go_quiet (fail)
  go_upto_region 40 with fail
  clear p0 q0 p1 q1 p2 q2 p3 q3 p4 q4 p5 q5 p6 q6 p7 q7 p8 q8 p9 q9 p10 q10 p11 q11 W1 W2 W3
  refine cutF (w := w) (g5 := g5) (g6 := g6) (GN.drewN hgW _) hx h5 h6 fun W4 hgWn hxn h5n h6n => ?_
  clear hgW hx h5 h6 
  have hgW := hgWn
  have hx := hxn
  have h5 := h5n
  have h6 := h6n
  clear hgWn hxn h5n h6n
  have W1 := lt_of_heap' hx
  have W2 := lt_of_heap' h5
  have W3 := lt_of_heap' h6
  obtain ⟨⟨p0, q0⟩, ⟨p1, q1⟩, ⟨p2, q2⟩, ⟨p3, q3⟩, ⟨p4, q4⟩, ⟨p5, q5⟩, ⟨p6, q6⟩, ⟨p7, q7⟩, ⟨p8, q8⟩, ⟨p9, q9⟩, ⟨p10, q10⟩, ⟨p11, q11⟩⟩ := c12 hx
  go_quiet ((go_at_call 46; exact Calls.quiet_of (put_any _ _ _ (by decide) (by decide) _)))
  go_wp2
  go_ret2
  exact ⟨by rw [unhide Hz]; rfl, by (repeat (first | with_reducible exact GN.refl _ | with_reducible assumption | (with_reducible refine GN.set ?_ ?_ _ _; rotate_left; · first | assumption | (simp; done)) | with_reducible refine GN.alloc ?_ _ | with_reducible refine GN.drewN ?_ _))⟩

set_option maxRecDepth 100000 in
set_option maxHeartbeats 4000000 in
theorem form_37f (rd r1 r2 r3 rm c sz i : Int) (hi : (Lit.int .i64 i).wf = true) (hz : (Lit.int .i64 sz).wf = true) (us wd : Bool) (w : World) : Calls Try.prog 33 #[.agg #[.int .i64 37, .int .i64 rd, .int .i64 r1, .int .i64 r2, .int .i64 r3, .int .i64 rm, .int .i64 c, .int .i64 sz, .int .i64 i, .bool false, .bool us, .bool wd]] w fun e w' => e = .returned (.tuple #[.int .u32 ((or32 (or32 (or32 (or32 (115) (12288)) (putN rd 7 5)) (putN r1 15 5)) (putN c 20 12) : Nat) : Int), .bool true]) ∧ GN w w' := by
  obtain ⟨z, hz⟩ : ∃ z : Int, z = ((or32 (or32 (or32 (or32 (115) (12288)) (putN rd 7 5)) (putN r1 15 5)) (putN c 20 12) : Nat) : Int) := ⟨_, rfl⟩
  rw [← hz]
  simp only [or32_cast, an12_cast, Int.natCast_mul, Int.natCast_emod, Int.cast_ofNat_Int] at hz
  have Hz := hide hz
  clear hz
  go_enter Try.func33, Try.ntmps33
  go_upto_region 2 with (first | (go_at_call 21; refine (branches_ab _).mono ?_; rintro _ _ ⟨B, hB, rfl, o_, rfl⟩) | (go_at_call 38; refine (atomics_ab _).mono ?_; rintro _ _ ⟨A, hA, rfl, o_, rfl⟩) | (refine wpL_store_row rfl 38 (.tmp 4) (.tmp 12) rfl _ B rfl rfl 38 #[.int .i64 0, .int .i64 0, .int .i64 0, .int .i64 0, .int .i64 0, .int .i64 0, .int .i64 0, .int .i64 0] ?_ (info38 hB).1 (info38 hB).2.1 (info38 hB).2.2 ?_; · exact hp_alloc (hp_last (by simp))) | (refine wpL_store_row rfl 52 (.tmp 5) (.tmp 13) rfl _ A rfl rfl 52 #[.int .i64 0, .int .i64 0, .int .i64 0, .int .i64 0, .int .i64 0, .int .i64 0, .int .i64 0, .int .i64 0, .int .i64 0, .int .i64 0, .int .i64 0, .int .i64 0, .int .i64 0, .int .i64 0, .int .i64 0, .int .i64 0, .int .i64 0, .int .i64 0, .int .i64 0, .int .i64 0, .int .i64 0, .int .i64 0, .int .i64 0, .int .i64 0, .int .i64 0, .int .i64 0, .int .i64 0, .int .i64 0, .int .i64 0, .int .i64 0, .int .i64 0, .int .i64 0] ?_ (info52 hA).1 (info52 hA).2.1 (info52 hA).2.2 ?_; · exact row_ne (by omega) (hp_last (by simp))))
  with_reducible refine form_start fun W hgW hx h5 h6 => ?_
  generalize hg5 : w.heap.size + 1 + 1 + 1 = g5 at *
  generalize hg6 : g5 + 1 = g6 at *
  clear hg5 hg6
  have W1 := lt_of_heap' hx
  have W2 := lt_of_heap' h5
  have W3 := lt_of_heap' h6
  obtain ⟨⟨p0, q0⟩, ⟨p1, q1⟩, ⟨p2, q2⟩, ⟨p3, q3⟩, ⟨p4, q4⟩, ⟨p5, q5⟩, ⟨p6, q6⟩, ⟨p7, q7⟩, ⟨p8, q8⟩, ⟨p9, q9⟩, ⟨p10, q10⟩, ⟨p11, q11⟩⟩ := c12 hx
  go_upto_region 37 with fail
  go_quiet (fail)
  go_upto_region 40 with fail
  clear p0 q0 p1 q1 p2 q2 p3 q3 p4 q4 p5 q5 p6 q6 p7 q7 p8 q8 p9 q9 p10 q10 p11 q11 W1 W2 W3
  refine cutF (w := w) (g5 := g5) (g6 := g6) (GN.drewN hgW _) hx h5 h6 fun W4 hgWn hxn h5n h6n => ?_
  clear hgW hx h5 h6 
  have hgW := hgWn
  have hx := hxn
  have h5 := h5n
  have h6 := h6n
  clear hgWn hxn h5n h6n
  have W1 := lt_of_heap' hx
  have W2 := lt_of_heap' h5
  have W3 := lt_of_heap' h6
  obtain ⟨⟨p0, q0⟩, ⟨p1, q1⟩, ⟨p2, q2⟩, ⟨p3, q3⟩, ⟨p4, q4⟩, ⟨p5, q5⟩, ⟨p6, q6⟩, ⟨p7, q7⟩, ⟨p8, q8⟩, ⟨p9, q9⟩, ⟨p10, q10⟩, ⟨p11, q11⟩⟩ := c12 hx
  go_quiet ((go_at_call 46; exact Calls.quiet_of (put_any _ _ _ (by decide) (by decide) _)))
  go_wp2
  go_ret2
  exact ⟨by rw [unhide Hz]; rfl, by (repeat (first | with_reducible exact GN.refl _ | with_reducible assumption | (with_reducible refine GN.set ?_ ?_ _ _; rotate_left; · first | assumption | (simp; done)) | with_reducible refine GN.alloc ?_ _ | with_reducible refine GN.drewN ?_ _))⟩

set_option maxRecDepth 100000 in
set_option maxHeartbeats 4000000 in
theorem form_7 (rd r1 r2 r3 rm c sz i : Int) (hi : (Lit.int .i64 i).wf = true) (hz : (Lit.int .i64 sz).wf = true) (ui : Bool) (us wd : Bool) (w : World) : Calls Try.prog 33 #[.agg #[.int .i64 7, .int .i64 rd, .int .i64 r1, .int .i64 r2, .int .i64 r3, .int .i64 rm, .int .i64 c, .int .i64 sz, .int .i64 i, .bool ui, .bool us, .bool wd]] w fun e w' => e = .returned (.tuple #[.int .u32 ((or32 (or32 (or32 (or32 (or32 (or32 (or32 (99) (16384)) (putN r1 15 5)) (putN r2 20 5)) (putN (i / 2) 8 4)) (putN (i / 32) 25 6)) (putN (i / 2048) 7 1)) (putN (i / 4096) 31 1) : Nat) : Int), .bool true]) ∧ GN w w' := by
  obtain ⟨z, hz⟩ : ∃ z : Int, z = ((or32 (or32 (or32 (or32 (or32 (or32 (or32 (99) (16384)) (putN r1 15 5)) (putN r2 20 5)) (putN (i / 2) 8 4)) (putN (i / 32) 25 6)) (putN (i / 2048) 7 1)) (putN (i / 4096) 31 1) : Nat) : Int) := ⟨_, rfl⟩
  rw [← hz]
  simp only [or32_cast, an12_cast, Int.natCast_mul, Int.natCast_emod, Int.cast_ofNat_Int] at hz
  have Hz := hide hz
  clear hz
  have hi2 := i64' hi
  go_enter Try.func33, Try.ntmps33
  go_upto_region 2 with (first | (go_at_call 21; refine (branches_ab _).mono ?_; rintro _ _ ⟨B, hB, rfl, o_, rfl⟩) | (go_at_call 38; refine (atomics_ab _).mono ?_; rintro _ _ ⟨A, hA, rfl, o_, rfl⟩) | (refine wpL_store_row rfl 38 (.tmp 4) (.tmp 12) rfl _ B rfl rfl 38 #[.int .i64 0, .int .i64 0, .int .i64 0, .int .i64 0, .int .i64 0, .int .i64 0, .int .i64 0, .int .i64 0] ?_ (info38 hB).1 (info38 hB).2.1 (info38 hB).2.2 ?_; · exact hp_alloc (hp_last (by simp))) | (refine wpL_store_row rfl 52 (.tmp 5) (.tmp 13) rfl _ A rfl rfl 52 #[.int .i64 0, .int .i64 0, .int .i64 0, .int .i64 0, .int .i64 0, .int .i64 0, .int .i64 0, .int .i64 0, .int .i64 0, .int .i64 0, .int .i64 0, .int .i64 0, .int .i64 0, .int .i64 0, .int .i64 0, .int .i64 0, .int .i64 0, .int .i64 0, .int .i64 0, .int .i64 0, .int .i64 0, .int .i64 0, .int .i64 0, .int .i64 0, .int .i64 0, .int .i64 0, .int .i64 0, .int .i64 0, .int .i64 0, .int .i64 0, .int .i64 0, .int .i64 0] ?_ (info52 hA).1 (info52 hA).2.1 (info52 hA).2.2 ?_; · exact row_ne (by omega) (hp_last (by simp))))
  with_reducible refine form_start fun W hgW hx h5 h6 => ?_
  generalize hg5 : w.heap.size + 1 + 1 + 1 = g5 at *
  generalize hg6 : g5 + 1 = g6 at *
  clear hg5 hg6
  have W1 := lt_of_heap' hx
  have W2 := lt_of_heap' h5
  have W3 := lt_of_heap' h6
  obtain ⟨⟨p0, q0⟩, ⟨p1, q1⟩, ⟨p2, q2⟩, ⟨p3, q3⟩, ⟨p4, q4⟩, ⟨p5, q5⟩, ⟨p6, q6⟩, ⟨p7, q7⟩, ⟨p8, q8⟩, ⟨p9, q9⟩, ⟨p10, q10⟩, ⟨p11, q11⟩⟩ := c12 hx
  have hf : placeN brL 7 = 4 := by decide
  go_upto_region 41 with fail
  have C5 := hide (cells_of (l := brL) (unhide hB) h5)
  go_quiet ((go_at_call 52; exact Calls.quiet_of (place_any brL 7 g5 8 rfl (by decide) _ (unhide C5))))
  clear C5
  go_upto_region 43 with fail
  clear p0 q0 p1 q1 p2 q2 p3 q3 p4 q4 p5 q5 p6 q6 p7 q7 p8 q8 p9 q9 p10 q10 p11 q11 W1 W2 W3
  refine cutF (w := w) (g5 := g5) (g6 := g6) (GN.drewN hgW _) hx h5 h6 fun W4 hgWn hxn h5n h6n => ?_
  clear hgW hx h5 h6 
  have hgW := hgWn
  have hx := hxn
  have h5 := h5n
  have h6 := h6n
  clear hgWn hxn h5n h6n
  have W1 := lt_of_heap' hx
  have W2 := lt_of_heap' h5
  have W3 := lt_of_heap' h6
  obtain ⟨⟨p0, q0⟩, ⟨p1, q1⟩, ⟨p2, q2⟩, ⟨p3, q3⟩, ⟨p4, q4⟩, ⟨p5, q5⟩, ⟨p6, q6⟩, ⟨p7, q7⟩, ⟨p8, q8⟩, ⟨p9, q9⟩, ⟨p10, q10⟩, ⟨p11, q11⟩⟩ := c12 hx
  go_quiet ((go_at_call 46; exact Calls.quiet_of (put_any _ _ _ (by decide) (by decide) _)))
  go_wp2
  go_ret2
  exact ⟨by rw [unhide Hz]; rfl, by (repeat (first | with_reducible exact GN.refl _ | with_reducible assumption | (with_reducible refine GN.set ?_ ?_ _ _; rotate_left; · first | assumption | (simp; done)) | with_reducible refine GN.alloc ?_ _ | with_reducible refine GN.drewN ?_ _))⟩

set_option maxRecDepth 100000 in
set_option maxHeartbeats 4000000 in
theorem form_38 (rd r1 r2 r3 rm c sz i : Int) (hi : (Lit.int .i64 i).wf = true) (hz : (Lit.int .i64 sz).wf = true) (ui : Bool) (us wd : Bool) (w : World) : Calls Try.prog 33 #[.agg #[.int .i64 38, .int .i64 rd, .int .i64 r1, .int .i64 r2, .int .i64 r3, .int .i64 rm, .int .i64 c, .int .i64 sz, .int .i64 i, .bool ui, .bool us, .bool wd]] w fun e w' => e = .returned (.tuple #[.int .u32 ((or32 (or32 (or32 (47) (logN sz * 4096 % 4294967296)) (268435456)) (rN rd r1 r2) : Nat) : Int), .bool true]) ∧ GN w w' := by
  obtain ⟨hs1, hs2⟩ := i64' hz
  go_enter Try.func33, Try.ntmps33
  go_upto_region 2 with (first | (go_at_call 21; refine (branches_ab _).mono ?_; rintro _ _ ⟨B, hB, rfl, o_, rfl⟩) | (go_at_call 38; refine (atomics_ab _).mono ?_; rintro _ _ ⟨A, hA, rfl, o_, rfl⟩) | (refine wpL_store_row rfl 38 (.tmp 4) (.tmp 12) rfl _ B rfl rfl 38 #[.int .i64 0, .int .i64 0, .int .i64 0, .int .i64 0, .int .i64 0, .int .i64 0, .int .i64 0, .int .i64 0] ?_ (info38 hB).1 (info38 hB).2.1 (info38 hB).2.2 ?_; · exact hp_alloc (hp_last (by simp))) | (refine wpL_store_row rfl 52 (.tmp 5) (.tmp 13) rfl _ A rfl rfl 52 #[.int .i64 0, .int .i64 0, .int .i64 0, .int .i64 0, .int .i64 0, .int .i64 0, .int .i64 0, .int .i64 0, .int .i64 0, .int .i64 0, .int .i64 0, .int .i64 0, .int .i64 0, .int .i64 0, .int .i64 0, .int .i64 0, .int .i64 0, .int .i64 0, .int .i64 0, .int .i64 0, .int .i64 0, .int .i64 0, .int .i64 0, .int .i64 0, .int .i64 0, .int .i64 0, .int .i64 0, .int .i64 0, .int .i64 0, .int .i64 0, .int .i64 0, .int .i64 0] ?_ (info52 hA).1 (info52 hA).2.1 (info52 hA).2.2 ?_; · exact row_ne (by omega) (hp_last (by simp))))
  with_reducible refine form_start fun W hgW hx h5 h6 => ?_
  generalize hg5 : w.heap.size + 1 + 1 + 1 = g5 at *
  generalize hg6 : g5 + 1 = g6 at *
  clear hg5 hg6
  have W1 := lt_of_heap' hx
  have W2 := lt_of_heap' h5
  have W3 := lt_of_heap' h6
  obtain ⟨⟨p0, q0⟩, ⟨p1, q1⟩, ⟨p2, q2⟩, ⟨p3, q3⟩, ⟨p4, q4⟩, ⟨p5, q5⟩, ⟨p6, q6⟩, ⟨p7, q7⟩, ⟨p8, q8⟩, ⟨p9, q9⟩, ⟨p10, q10⟩, ⟨p11, q11⟩⟩ := c12 hx
  have hf : placeN brL 38 = -1 := by decide
  have hf2 : placeN atL 38 = 2 := by decide
  go_upto_region 41 with fail
  have C5 := hide (cells_of (l := brL) (unhide hB) h5)
  go_quiet ((go_at_call 52; exact Calls.quiet_of (place_any brL 38 g5 8 rfl (by decide) _ (unhide C5))))
  clear C5
  go_upto_region 44 with fail
  clear p0 q0 p1 q1 p2 q2 p3 q3 p4 q4 p5 q5 p6 q6 p7 q7 p8 q8 p9 q9 p10 q10 p11 q11 W1 W2 W3
  refine cutF (w := w) (g5 := g5) (g6 := g6) (GN.drewN hgW _) hx h5 h6 fun W4 hgWn hxn h5n h6n => ?_
  clear hgW hx h5 h6 
  have hgW := hgWn
  have hx := hxn
  have h5 := h5n
  have h6 := h6n
  clear hgWn hxn h5n h6n
  have W1 := lt_of_heap' hx
  have W2 := lt_of_heap' h5
  have W3 := lt_of_heap' h6
  obtain ⟨⟨p0, q0⟩, ⟨p1, q1⟩, ⟨p2, q2⟩, ⟨p3, q3⟩, ⟨p4, q4⟩, ⟨p5, q5⟩, ⟨p6, q6⟩, ⟨p7, q7⟩, ⟨p8, q8⟩, ⟨p9, q9⟩, ⟨p10, q10⟩, ⟨p11, q11⟩⟩ := c12 hx
  have C6 := hide (cells_of (l := atL) (unhide hA) h6)
  go_quiet ((go_at_call 52; exact Calls.quiet_of (place_any atL 38 g6 32 rfl (by decide) _ (unhide C6))))
  clear C6
  go_upto_region 46 with fail
  clear p0 q0 p1 q1 p2 q2 p3 q3 p4 q4 p5 q5 p6 q6 p7 q7 p8 q8 p9 q9 p10 q10 p11 q11 W1 W2 W3
  refine cutF (w := w) (g5 := g5) (g6 := g6) (GN.drewN hgW _) hx h5 h6 fun W5 hgWn hxn h5n h6n => ?_
  clear hgW hx h5 h6 
  have hgW := hgWn
  have hx := hxn
  have h5 := h5n
  have h6 := h6n
  clear hgWn hxn h5n h6n
  have W1 := lt_of_heap' hx
  have W2 := lt_of_heap' h5
  have W3 := lt_of_heap' h6
  obtain ⟨⟨p0, q0⟩, ⟨p1, q1⟩, ⟨p2, q2⟩, ⟨p3, q3⟩, ⟨p4, q4⟩, ⟨p5, q5⟩, ⟨p6, q6⟩, ⟨p7, q7⟩, ⟨p8, q8⟩, ⟨p9, q9⟩, ⟨p10, q10⟩, ⟨p11, q11⟩⟩ := c12 hx
  clear p0 q0 p1 q1 p2 q2 p3 q3 p4 q4 p5 q5 p6 q6 p7 q7 p8 q8 p9 q9 p10 q10 p11 q11
  refine wp_region_F (fun w_ => GN W5 w_) GN (fun k_ v_ w_ => match k_ with
      | 0 => v_ = .pointer (some ⟨w.heap.size, 7, none⟩)
      | 1 => v_ = .int .i64 sz
      | 2 => v_ = .int .u32 ((logN sz : Nat) : Int)
      | 3 => v_ = .int .u32 ((logN sz * 4096 % 4294967296 : Nat) : Int)
      | 4 => v_ = .int .u32 ((or32 (47) (logN sz * 4096 % 4294967296) : Nat) : Int)
      | 5 => v_ = .int .i64 2
      | 6 => v_ = .int .u32 2
      | 7 => v_ = .int .u32 268435456
      | 8 => v_ = .int .u32 ((or32 (or32 (47) (logN sz * 4096 % 4294967296)) (268435456) : Nat) : Int)
      | 9 => v_ = .agg #[.int .i64 38, .int .i64 rd, .int .i64 r1, .int .i64 r2, .int .i64 r3, .int .i64 rm, .int .i64 c, .int .i64 sz, .int .i64 i, .bool ui, .bool us, .bool wd]
      | 10 => v_ = .int .u32 ((rN rd r1 r2 : Nat) : Int)
      | 11 => v_ = .int .u32 ((or32 (or32 (or32 (47) (logN sz * 4096 % 4294967296)) (268435456)) (rN rd r1 r2) : Nat) : Int)
      | 12 => v_ = .int .u32 ((or32 (or32 (or32 (47) (logN sz * 4096 % 4294967296)) (268435456)) (rN rd r1 r2) : Nat) : Int)
      | _ => v_ = .bool true) fol (by kernel_rfl) ?_ ?_ ?_ ?_
  · exact (GN.refl W5).drew
  · intro k_ v_ w_ w2_ h1 hg
    split at h1 <;> exact h1
  · intro vals
    show wpG _ _ _ _ _ _ 0 (_ :: _) _
    refine wpG_cons (gval (.pointer (some ⟨w.heap.size, 7, none⟩)) GN.refl fun w_ hJ hd => ?_) ?_
    · exact ⟨by kernel_rfl, by kernel_rfl, rfl⟩
    refine wpG_cons (gop (Instr.loadAt 3 (.pointer (some ⟨w.heap.size, 7, none⟩))) (.int .i64 sz) GN.refl fun w_ hJ hd => ?_) ?_
    · have e0 : vals 0 = _ := hd 0 (by decide) (by kernel_rfl)
      rw [e0]
      exact ⟨by kernel_rfl, by kernel_rfl, run_load1 (by kernel_rfl) (c12 (GN.heap hJ hx)).2.2.2.2.2.2.2.1.1, rfl⟩
    refine wpG_cons (gcall 48 #[.int .i64 sz] fun w_ hJ hd => ?_) ?_
    · have e1 : vals 1 = _ := hd 1 (by decide) (by kernel_rfl)
      rw [e1]
      exact ⟨by kernel_rfl, by kernel_rfl, (log_any sz hs1 hs2 w_).mono fun e w2 ⟨he, m, hw⟩ => ⟨_, he, by subst hw; exact hJ.drewN _, by subst hw; exact (GN.refl w_).drewN _, rfl⟩⟩
    refine wpG_cons (gop (binOp .shl 22 (.int .u32 ((logN sz : Nat) : Int)) (.int .u64 12)) (.int .u32 ((logN sz * 4096 % 4294967296 : Nat) : Int)) GN.refl fun w_ hJ hd => ?_) ?_
    · have e2 : vals 2 = _ := hd 2 (by decide) (by kernel_rfl)
      rw [e2]
      exact ⟨by kernel_rfl, by kernel_rfl, shl12 (logN sz) w_, rfl⟩
    refine wpG_cons (gop (binOp .or 22 (.int .u32 47) (.int .u32 ((logN sz * 4096 % 4294967296 : Nat) : Int))) (.int .u32 ((or32 (47) (logN sz * 4096 % 4294967296) : Nat) : Int)) GN.refl fun w_ hJ hd => ?_) ?_
    · have e3 : vals 3 = _ := hd 3 (by decide) (by kernel_rfl)
      rw [e3]
      exact ⟨by kernel_rfl, by kernel_rfl, or_run 47 (logN sz * 4096 % 4294967296) w_, rfl⟩
    refine wpG_cons (gval (.int .i64 2) GN.refl fun w_ hJ hd => ?_) ?_
    · exact ⟨by kernel_rfl, by kernel_rfl, rfl⟩
    refine wpG_cons (gval (.int .u32 2) GN.refl fun w_ hJ hd => ?_) ?_
    · have e5 : vals 5 = _ := hd 5 (by decide) (by kernel_rfl)
      rw [e5]
      exact ⟨by kernel_rfl, by kernel_rfl, rfl⟩
    refine wpG_cons (gval (.int .u32 268435456) GN.refl fun w_ hJ hd => ?_) ?_
    · have e6 : vals 6 = _ := hd 6 (by decide) (by kernel_rfl)
      rw [e6]
      exact ⟨by kernel_rfl, by kernel_rfl, rfl⟩
    refine wpG_cons (gop (binOp .or 22 (.int .u32 ((or32 (47) (logN sz * 4096 % 4294967296) : Nat) : Int)) (.int .u32 268435456)) (.int .u32 ((or32 (or32 (47) (logN sz * 4096 % 4294967296)) (268435456) : Nat) : Int)) GN.refl fun w_ hJ hd => ?_) ?_
    · have e4 : vals 4 = _ := hd 4 (by decide) (by kernel_rfl)
      have e7 : vals 7 = _ := hd 7 (by decide) (by kernel_rfl)
      rw [e4, e7]
      exact ⟨by kernel_rfl, by kernel_rfl, or_run _ 268435456 w_, rfl⟩
    refine wpG_cons (gop (Instr.loadAt 25 (.pointer (some ⟨w.heap.size, 0, none⟩))) (.agg #[.int .i64 38, .int .i64 rd, .int .i64 r1, .int .i64 r2, .int .i64 r3, .int .i64 rm, .int .i64 c, .int .i64 sz, .int .i64 i, .bool ui, .bool us, .bool wd]) GN.refl fun w_ hJ hd => ?_) ?_
    · exact ⟨by kernel_rfl, by kernel_rfl, run_loadRow (GN.heap hJ hx), rfl⟩
    refine wpG_cons (gcall 51 #[.agg #[.int .i64 38, .int .i64 rd, .int .i64 r1, .int .i64 r2, .int .i64 r3, .int .i64 rm, .int .i64 c, .int .i64 sz, .int .i64 i, .bool ui, .bool us, .bool wd]] fun w_ hJ hd => ?_) ?_
    · have e9 : vals 9 = _ := hd 9 (by decide) (by kernel_rfl)
      rw [e9]
      exact ⟨by kernel_rfl, by kernel_rfl, (r_any _ _ _ _ _ _ _ _ _ hi _ _ _ w_).mono fun e w2 ⟨he, hq⟩ => ⟨_, he, GN.trans hJ hq, hq, rfl⟩⟩
    refine wpG_cons (gop (binOp .or 22 (.int .u32 ((or32 (or32 (47) (logN sz * 4096 % 4294967296)) (268435456) : Nat) : Int)) (.int .u32 ((rN rd r1 r2 : Nat) : Int))) (.int .u32 ((or32 (or32 (or32 (47) (logN sz * 4096 % 4294967296)) (268435456)) (rN rd r1 r2) : Nat) : Int)) GN.refl fun w_ hJ hd => ?_) ?_
    · have e8 : vals 8 = _ := hd 8 (by decide) (by kernel_rfl)
      have e10 : vals 10 = _ := hd 10 (by decide) (by kernel_rfl)
      rw [e8, e10]
      exact ⟨by kernel_rfl, by kernel_rfl, or_run _ _ w_, rfl⟩
    refine wpG_cons (gval (.int .u32 ((or32 (or32 (or32 (47) (logN sz * 4096 % 4294967296)) (268435456)) (rN rd r1 r2) : Nat) : Int)) GN.refl fun w_ hJ hd => ?_) ?_
    · have e11 : vals 11 = _ := hd 11 (by decide) (by kernel_rfl)
      rw [e11]
      exact ⟨by kernel_rfl, by kernel_rfl, rfl⟩
    refine wpG_cons (gval (.bool true) GN.refl fun w_ hJ hd => ?_) wpG_nil
    · exact ⟨by kernel_rfl, by kernel_rfl, rfl⟩
  intro vals w_ hJ hf
  have e0 : vals 0 = _ := hf 0 (by decide)
  have e1 : vals 1 = _ := hf 1 (by decide)
  have e2 : vals 2 = _ := hf 2 (by decide)
  have e3 : vals 3 = _ := hf 3 (by decide)
  have e4 : vals 4 = _ := hf 4 (by decide)
  have e5 : vals 5 = _ := hf 5 (by decide)
  have e6 : vals 6 = _ := hf 6 (by decide)
  have e7 : vals 7 = _ := hf 7 (by decide)
  have e8 : vals 8 = _ := hf 8 (by decide)
  have e9 : vals 9 = _ := hf 9 (by decide)
  have e10 : vals 10 = _ := hf 10 (by decide)
  have e11 : vals 11 = _ := hf 11 (by decide)
  have e12 : vals 12 = _ := hf 12 (by decide)
  have e13 : vals 13 = _ := hf 13 (by decide)
  simp only [fillG, Nat.zero_add, Nat.reduceAdd, e0, e1, e2, e3, e4, e5, e6, e7, e8, e9, e10, e11, e12, e13, Act.put, List.setIfInBounds_toArray, List.set_cons_succ, List.set_cons_zero]
  clear e0 e1 e2 e3 e4 e5 e6 e7 e8 e9 e10 e11 e12 e13 hf
  have hgn := GN.trans hgW hJ
  go_wp2
  go_ret2
  exact ⟨rfl, by (repeat (first | with_reducible exact GN.refl _ | with_reducible assumption | (with_reducible refine GN.set ?_ ?_ _ _; rotate_left; · first | assumption | (simp; done)) | with_reducible refine GN.alloc ?_ _ | with_reducible refine GN.drewN ?_ _))⟩

set_option maxRecDepth 100000 in
set_option maxHeartbeats 4000000 in
theorem form_42 (rd r1 r2 r3 rm c sz i : Int) (hi : (Lit.int .i64 i).wf = true) (hz : (Lit.int .i64 sz).wf = true) (ui : Bool) (us wd : Bool) (w : World) : Calls Try.prog 33 #[.agg #[.int .i64 42, .int .i64 rd, .int .i64 r1, .int .i64 r2, .int .i64 r3, .int .i64 rm, .int .i64 c, .int .i64 sz, .int .i64 i, .bool ui, .bool us, .bool wd]] w fun e w' => e = .returned (.tuple #[.int .u32 ((or32 (or32 (or32 (47) (logN sz * 4096 % 4294967296)) (536870912)) (rN rd r1 r2) : Nat) : Int), .bool true]) ∧ GN w w' := by
  obtain ⟨hs1, hs2⟩ := i64' hz
  go_enter Try.func33, Try.ntmps33
  go_upto_region 2 with (first | (go_at_call 21; refine (branches_ab _).mono ?_; rintro _ _ ⟨B, hB, rfl, o_, rfl⟩) | (go_at_call 38; refine (atomics_ab _).mono ?_; rintro _ _ ⟨A, hA, rfl, o_, rfl⟩) | (refine wpL_store_row rfl 38 (.tmp 4) (.tmp 12) rfl _ B rfl rfl 38 #[.int .i64 0, .int .i64 0, .int .i64 0, .int .i64 0, .int .i64 0, .int .i64 0, .int .i64 0, .int .i64 0] ?_ (info38 hB).1 (info38 hB).2.1 (info38 hB).2.2 ?_; · exact hp_alloc (hp_last (by simp))) | (refine wpL_store_row rfl 52 (.tmp 5) (.tmp 13) rfl _ A rfl rfl 52 #[.int .i64 0, .int .i64 0, .int .i64 0, .int .i64 0, .int .i64 0, .int .i64 0, .int .i64 0, .int .i64 0, .int .i64 0, .int .i64 0, .int .i64 0, .int .i64 0, .int .i64 0, .int .i64 0, .int .i64 0, .int .i64 0, .int .i64 0, .int .i64 0, .int .i64 0, .int .i64 0, .int .i64 0, .int .i64 0, .int .i64 0, .int .i64 0, .int .i64 0, .int .i64 0, .int .i64 0, .int .i64 0, .int .i64 0, .int .i64 0, .int .i64 0, .int .i64 0] ?_ (info52 hA).1 (info52 hA).2.1 (info52 hA).2.2 ?_; · exact row_ne (by omega) (hp_last (by simp))))
  with_reducible refine form_start fun W hgW hx h5 h6 => ?_
  generalize hg5 : w.heap.size + 1 + 1 + 1 = g5 at *
  generalize hg6 : g5 + 1 = g6 at *
  clear hg5 hg6
  have W1 := lt_of_heap' hx
  have W2 := lt_of_heap' h5
  have W3 := lt_of_heap' h6
  obtain ⟨⟨p0, q0⟩, ⟨p1, q1⟩, ⟨p2, q2⟩, ⟨p3, q3⟩, ⟨p4, q4⟩, ⟨p5, q5⟩, ⟨p6, q6⟩, ⟨p7, q7⟩, ⟨p8, q8⟩, ⟨p9, q9⟩, ⟨p10, q10⟩, ⟨p11, q11⟩⟩ := c12 hx
  have hf : placeN brL 42 = -1 := by decide
  have hf2 : placeN atL 42 = 4 := by decide
  go_upto_region 41 with fail
  have C5 := hide (cells_of (l := brL) (unhide hB) h5)
  go_quiet ((go_at_call 52; exact Calls.quiet_of (place_any brL 42 g5 8 rfl (by decide) _ (unhide C5))))
  clear C5
  go_upto_region 44 with fail
  clear p0 q0 p1 q1 p2 q2 p3 q3 p4 q4 p5 q5 p6 q6 p7 q7 p8 q8 p9 q9 p10 q10 p11 q11 W1 W2 W3
  refine cutF (w := w) (g5 := g5) (g6 := g6) (GN.drewN hgW _) hx h5 h6 fun W4 hgWn hxn h5n h6n => ?_
  clear hgW hx h5 h6 
  have hgW := hgWn
  have hx := hxn
  have h5 := h5n
  have h6 := h6n
  clear hgWn hxn h5n h6n
  have W1 := lt_of_heap' hx
  have W2 := lt_of_heap' h5
  have W3 := lt_of_heap' h6
  obtain ⟨⟨p0, q0⟩, ⟨p1, q1⟩, ⟨p2, q2⟩, ⟨p3, q3⟩, ⟨p4, q4⟩, ⟨p5, q5⟩, ⟨p6, q6⟩, ⟨p7, q7⟩, ⟨p8, q8⟩, ⟨p9, q9⟩, ⟨p10, q10⟩, ⟨p11, q11⟩⟩ := c12 hx
  have C6 := hide (cells_of (l := atL) (unhide hA) h6)
  go_quiet ((go_at_call 52; exact Calls.quiet_of (place_any atL 42 g6 32 rfl (by decide) _ (unhide C6))))
  clear C6
  go_upto_region 46 with fail
  clear p0 q0 p1 q1 p2 q2 p3 q3 p4 q4 p5 q5 p6 q6 p7 q7 p8 q8 p9 q9 p10 q10 p11 q11 W1 W2 W3
  refine cutF (w := w) (g5 := g5) (g6 := g6) (GN.drewN hgW _) hx h5 h6 fun W5 hgWn hxn h5n h6n => ?_
  clear hgW hx h5 h6 
  have hgW := hgWn
  have hx := hxn
  have h5 := h5n
  have h6 := h6n
  clear hgWn hxn h5n h6n
  have W1 := lt_of_heap' hx
  have W2 := lt_of_heap' h5
  have W3 := lt_of_heap' h6
  obtain ⟨⟨p0, q0⟩, ⟨p1, q1⟩, ⟨p2, q2⟩, ⟨p3, q3⟩, ⟨p4, q4⟩, ⟨p5, q5⟩, ⟨p6, q6⟩, ⟨p7, q7⟩, ⟨p8, q8⟩, ⟨p9, q9⟩, ⟨p10, q10⟩, ⟨p11, q11⟩⟩ := c12 hx
  clear p0 q0 p1 q1 p2 q2 p3 q3 p4 q4 p5 q5 p6 q6 p7 q7 p8 q8 p9 q9 p10 q10 p11 q11
  refine wp_region_F (fun w_ => GN W5 w_) GN (fun k_ v_ w_ => match k_ with
      | 0 => v_ = .pointer (some ⟨w.heap.size, 7, none⟩)
      | 1 => v_ = .int .i64 sz
      | 2 => v_ = .int .u32 ((logN sz : Nat) : Int)
      | 3 => v_ = .int .u32 ((logN sz * 4096 % 4294967296 : Nat) : Int)
      | 4 => v_ = .int .u32 ((or32 (47) (logN sz * 4096 % 4294967296) : Nat) : Int)
      | 5 => v_ = .int .i64 4
      | 6 => v_ = .int .u32 4
      | 7 => v_ = .int .u32 536870912
      | 8 => v_ = .int .u32 ((or32 (or32 (47) (logN sz * 4096 % 4294967296)) (536870912) : Nat) : Int)
      | 9 => v_ = .agg #[.int .i64 42, .int .i64 rd, .int .i64 r1, .int .i64 r2, .int .i64 r3, .int .i64 rm, .int .i64 c, .int .i64 sz, .int .i64 i, .bool ui, .bool us, .bool wd]
      | 10 => v_ = .int .u32 ((rN rd r1 r2 : Nat) : Int)
      | 11 => v_ = .int .u32 ((or32 (or32 (or32 (47) (logN sz * 4096 % 4294967296)) (536870912)) (rN rd r1 r2) : Nat) : Int)
      | 12 => v_ = .int .u32 ((or32 (or32 (or32 (47) (logN sz * 4096 % 4294967296)) (536870912)) (rN rd r1 r2) : Nat) : Int)
      | _ => v_ = .bool true) fol (by kernel_rfl) ?_ ?_ ?_ ?_
  · exact (GN.refl W5).drew
  · intro k_ v_ w_ w2_ h1 hg
    split at h1 <;> exact h1
  · intro vals
    show wpG _ _ _ _ _ _ 0 (_ :: _) _
    refine wpG_cons (gval (.pointer (some ⟨w.heap.size, 7, none⟩)) GN.refl fun w_ hJ hd => ?_) ?_
    · exact ⟨by kernel_rfl, by kernel_rfl, rfl⟩
    refine wpG_cons (gop (Instr.loadAt 3 (.pointer (some ⟨w.heap.size, 7, none⟩))) (.int .i64 sz) GN.refl fun w_ hJ hd => ?_) ?_
    · have e0 : vals 0 = _ := hd 0 (by decide) (by kernel_rfl)
      rw [e0]
      exact ⟨by kernel_rfl, by kernel_rfl, run_load1 (by kernel_rfl) (c12 (GN.heap hJ hx)).2.2.2.2.2.2.2.1.1, rfl⟩
    refine wpG_cons (gcall 48 #[.int .i64 sz] fun w_ hJ hd => ?_) ?_
    · have e1 : vals 1 = _ := hd 1 (by decide) (by kernel_rfl)
      rw [e1]
      exact ⟨by kernel_rfl, by kernel_rfl, (log_any sz hs1 hs2 w_).mono fun e w2 ⟨he, m, hw⟩ => ⟨_, he, by subst hw; exact hJ.drewN _, by subst hw; exact (GN.refl w_).drewN _, rfl⟩⟩
    refine wpG_cons (gop (binOp .shl 22 (.int .u32 ((logN sz : Nat) : Int)) (.int .u64 12)) (.int .u32 ((logN sz * 4096 % 4294967296 : Nat) : Int)) GN.refl fun w_ hJ hd => ?_) ?_
    · have e2 : vals 2 = _ := hd 2 (by decide) (by kernel_rfl)
      rw [e2]
      exact ⟨by kernel_rfl, by kernel_rfl, shl12 (logN sz) w_, rfl⟩
    refine wpG_cons (gop (binOp .or 22 (.int .u32 47) (.int .u32 ((logN sz * 4096 % 4294967296 : Nat) : Int))) (.int .u32 ((or32 (47) (logN sz * 4096 % 4294967296) : Nat) : Int)) GN.refl fun w_ hJ hd => ?_) ?_
    · have e3 : vals 3 = _ := hd 3 (by decide) (by kernel_rfl)
      rw [e3]
      exact ⟨by kernel_rfl, by kernel_rfl, or_run 47 (logN sz * 4096 % 4294967296) w_, rfl⟩
    refine wpG_cons (gval (.int .i64 4) GN.refl fun w_ hJ hd => ?_) ?_
    · exact ⟨by kernel_rfl, by kernel_rfl, rfl⟩
    refine wpG_cons (gval (.int .u32 4) GN.refl fun w_ hJ hd => ?_) ?_
    · have e5 : vals 5 = _ := hd 5 (by decide) (by kernel_rfl)
      rw [e5]
      exact ⟨by kernel_rfl, by kernel_rfl, rfl⟩
    refine wpG_cons (gval (.int .u32 536870912) GN.refl fun w_ hJ hd => ?_) ?_
    · have e6 : vals 6 = _ := hd 6 (by decide) (by kernel_rfl)
      rw [e6]
      exact ⟨by kernel_rfl, by kernel_rfl, rfl⟩
    refine wpG_cons (gop (binOp .or 22 (.int .u32 ((or32 (47) (logN sz * 4096 % 4294967296) : Nat) : Int)) (.int .u32 536870912)) (.int .u32 ((or32 (or32 (47) (logN sz * 4096 % 4294967296)) (536870912) : Nat) : Int)) GN.refl fun w_ hJ hd => ?_) ?_
    · have e4 : vals 4 = _ := hd 4 (by decide) (by kernel_rfl)
      have e7 : vals 7 = _ := hd 7 (by decide) (by kernel_rfl)
      rw [e4, e7]
      exact ⟨by kernel_rfl, by kernel_rfl, or_run _ 536870912 w_, rfl⟩
    refine wpG_cons (gop (Instr.loadAt 25 (.pointer (some ⟨w.heap.size, 0, none⟩))) (.agg #[.int .i64 42, .int .i64 rd, .int .i64 r1, .int .i64 r2, .int .i64 r3, .int .i64 rm, .int .i64 c, .int .i64 sz, .int .i64 i, .bool ui, .bool us, .bool wd]) GN.refl fun w_ hJ hd => ?_) ?_
    · exact ⟨by kernel_rfl, by kernel_rfl, run_loadRow (GN.heap hJ hx), rfl⟩
    refine wpG_cons (gcall 51 #[.agg #[.int .i64 42, .int .i64 rd, .int .i64 r1, .int .i64 r2, .int .i64 r3, .int .i64 rm, .int .i64 c, .int .i64 sz, .int .i64 i, .bool ui, .bool us, .bool wd]] fun w_ hJ hd => ?_) ?_
    · have e9 : vals 9 = _ := hd 9 (by decide) (by kernel_rfl)
      rw [e9]
      exact ⟨by kernel_rfl, by kernel_rfl, (r_any _ _ _ _ _ _ _ _ _ hi _ _ _ w_).mono fun e w2 ⟨he, hq⟩ => ⟨_, he, GN.trans hJ hq, hq, rfl⟩⟩
    refine wpG_cons (gop (binOp .or 22 (.int .u32 ((or32 (or32 (47) (logN sz * 4096 % 4294967296)) (536870912) : Nat) : Int)) (.int .u32 ((rN rd r1 r2 : Nat) : Int))) (.int .u32 ((or32 (or32 (or32 (47) (logN sz * 4096 % 4294967296)) (536870912)) (rN rd r1 r2) : Nat) : Int)) GN.refl fun w_ hJ hd => ?_) ?_
    · have e8 : vals 8 = _ := hd 8 (by decide) (by kernel_rfl)
      have e10 : vals 10 = _ := hd 10 (by decide) (by kernel_rfl)
      rw [e8, e10]
      exact ⟨by kernel_rfl, by kernel_rfl, or_run _ _ w_, rfl⟩
    refine wpG_cons (gval (.int .u32 ((or32 (or32 (or32 (47) (logN sz * 4096 % 4294967296)) (536870912)) (rN rd r1 r2) : Nat) : Int)) GN.refl fun w_ hJ hd => ?_) ?_
    · have e11 : vals 11 = _ := hd 11 (by decide) (by kernel_rfl)
      rw [e11]
      exact ⟨by kernel_rfl, by kernel_rfl, rfl⟩
    refine wpG_cons (gval (.bool true) GN.refl fun w_ hJ hd => ?_) wpG_nil
    · exact ⟨by kernel_rfl, by kernel_rfl, rfl⟩
  intro vals w_ hJ hf
  have e0 : vals 0 = _ := hf 0 (by decide)
  have e1 : vals 1 = _ := hf 1 (by decide)
  have e2 : vals 2 = _ := hf 2 (by decide)
  have e3 : vals 3 = _ := hf 3 (by decide)
  have e4 : vals 4 = _ := hf 4 (by decide)
  have e5 : vals 5 = _ := hf 5 (by decide)
  have e6 : vals 6 = _ := hf 6 (by decide)
  have e7 : vals 7 = _ := hf 7 (by decide)
  have e8 : vals 8 = _ := hf 8 (by decide)
  have e9 : vals 9 = _ := hf 9 (by decide)
  have e10 : vals 10 = _ := hf 10 (by decide)
  have e11 : vals 11 = _ := hf 11 (by decide)
  have e12 : vals 12 = _ := hf 12 (by decide)
  have e13 : vals 13 = _ := hf 13 (by decide)
  simp only [fillG, Nat.zero_add, Nat.reduceAdd, e0, e1, e2, e3, e4, e5, e6, e7, e8, e9, e10, e11, e12, e13, Act.put, List.setIfInBounds_toArray, List.set_cons_succ, List.set_cons_zero]
  clear e0 e1 e2 e3 e4 e5 e6 e7 e8 e9 e10 e11 e12 e13 hf
  have hgn := GN.trans hgW hJ
  go_wp2
  go_ret2
  exact ⟨rfl, by (repeat (first | with_reducible exact GN.refl _ | with_reducible assumption | (with_reducible refine GN.set ?_ ?_ _ _; rotate_left; · first | assumption | (simp; done)) | with_reducible refine GN.alloc ?_ _ | with_reducible refine GN.drewN ?_ _))⟩

set_option maxRecDepth 100000 in
set_option maxHeartbeats 4000000 in
theorem form_46 (rd r1 r2 r3 rm c sz i : Int) (hi : (Lit.int .i64 i).wf = true) (hz : (Lit.int .i64 sz).wf = true) (ui : Bool) (us wd : Bool) (w : World) : Calls Try.prog 33 #[.agg #[.int .i64 46, .int .i64 rd, .int .i64 r1, .int .i64 r2, .int .i64 r3, .int .i64 rm, .int .i64 c, .int .i64 sz, .int .i64 i, .bool ui, .bool us, .bool wd]] w fun e w' => e = .returned (.tuple #[.int .u32 ((or32 (or32 (or32 (47) (logN sz * 4096 % 4294967296)) (2684354560)) (rN rd r1 r2) : Nat) : Int), .bool true]) ∧ GN w w' := by
  obtain ⟨hs1, hs2⟩ := i64' hz
  go_enter Try.func33, Try.ntmps33
  go_upto_region 2 with (first | (go_at_call 21; refine (branches_ab _).mono ?_; rintro _ _ ⟨B, hB, rfl, o_, rfl⟩) | (go_at_call 38; refine (atomics_ab _).mono ?_; rintro _ _ ⟨A, hA, rfl, o_, rfl⟩) | (refine wpL_store_row rfl 38 (.tmp 4) (.tmp 12) rfl _ B rfl rfl 38 #[.int .i64 0, .int .i64 0, .int .i64 0, .int .i64 0, .int .i64 0, .int .i64 0, .int .i64 0, .int .i64 0] ?_ (info38 hB).1 (info38 hB).2.1 (info38 hB).2.2 ?_; · exact hp_alloc (hp_last (by simp))) | (refine wpL_store_row rfl 52 (.tmp 5) (.tmp 13) rfl _ A rfl rfl 52 #[.int .i64 0, .int .i64 0, .int .i64 0, .int .i64 0, .int .i64 0, .int .i64 0, .int .i64 0, .int .i64 0, .int .i64 0, .int .i64 0, .int .i64 0, .int .i64 0, .int .i64 0, .int .i64 0, .int .i64 0, .int .i64 0, .int .i64 0, .int .i64 0, .int .i64 0, .int .i64 0, .int .i64 0, .int .i64 0, .int .i64 0, .int .i64 0, .int .i64 0, .int .i64 0, .int .i64 0, .int .i64 0, .int .i64 0, .int .i64 0, .int .i64 0, .int .i64 0] ?_ (info52 hA).1 (info52 hA).2.1 (info52 hA).2.2 ?_; · exact row_ne (by omega) (hp_last (by simp))))
  with_reducible refine form_start fun W hgW hx h5 h6 => ?_
  generalize hg5 : w.heap.size + 1 + 1 + 1 = g5 at *
  generalize hg6 : g5 + 1 = g6 at *
  clear hg5 hg6
  have W1 := lt_of_heap' hx
  have W2 := lt_of_heap' h5
  have W3 := lt_of_heap' h6
  obtain ⟨⟨p0, q0⟩, ⟨p1, q1⟩, ⟨p2, q2⟩, ⟨p3, q3⟩, ⟨p4, q4⟩, ⟨p5, q5⟩, ⟨p6, q6⟩, ⟨p7, q7⟩, ⟨p8, q8⟩, ⟨p9, q9⟩, ⟨p10, q10⟩, ⟨p11, q11⟩⟩ := c12 hx
  have hf : placeN brL 46 = -1 := by decide
  have hf2 : placeN atL 46 = 20 := by decide
  go_upto_region 41 with fail
  have C5 := hide (cells_of (l := brL) (unhide hB) h5)
  go_quiet ((go_at_call 52; exact Calls.quiet_of (place_any brL 46 g5 8 rfl (by decide) _ (unhide C5))))
  clear C5
  go_upto_region 44 with fail
  clear p0 q0 p1 q1 p2 q2 p3 q3 p4 q4 p5 q5 p6 q6 p7 q7 p8 q8 p9 q9 p10 q10 p11 q11 W1 W2 W3
  refine cutF (w := w) (g5 := g5) (g6 := g6) (GN.drewN hgW _) hx h5 h6 fun W4 hgWn hxn h5n h6n => ?_
  clear hgW hx h5 h6 
  have hgW := hgWn
  have hx := hxn
  have h5 := h5n
  have h6 := h6n
  clear hgWn hxn h5n h6n
  have W1 := lt_of_heap' hx
  have W2 := lt_of_heap' h5
  have W3 := lt_of_heap' h6
  obtain ⟨⟨p0, q0⟩, ⟨p1, q1⟩, ⟨p2, q2⟩, ⟨p3, q3⟩, ⟨p4, q4⟩, ⟨p5, q5⟩, ⟨p6, q6⟩, ⟨p7, q7⟩, ⟨p8, q8⟩, ⟨p9, q9⟩, ⟨p10, q10⟩, ⟨p11, q11⟩⟩ := c12 hx
  have C6 := hide (cells_of (l := atL) (unhide hA) h6)
  go_quiet ((go_at_call 52; exact Calls.quiet_of (place_any atL 46 g6 32 rfl (by decide) _ (unhide C6))))
  clear C6
  go_upto_region 46 with fail
  clear p0 q0 p1 q1 p2 q2 p3 q3 p4 q4 p5 q5 p6 q6 p7 q7 p8 q8 p9 q9 p10 q10 p11 q11 W1 W2 W3
  refine cutF (w := w) (g5 := g5) (g6 := g6) (GN.drewN hgW _) hx h5 h6 fun W5 hgWn hxn h5n h6n => ?_
  clear hgW hx h5 h6 
  have hgW := hgWn
  have hx := hxn
  have h5 := h5n
  have h6 := h6n
  clear hgWn hxn h5n h6n
  have W1 := lt_of_heap' hx
  have W2 := lt_of_heap' h5
  have W3 := lt_of_heap' h6
  obtain ⟨⟨p0, q0⟩, ⟨p1, q1⟩, ⟨p2, q2⟩, ⟨p3, q3⟩, ⟨p4, q4⟩, ⟨p5, q5⟩, ⟨p6, q6⟩, ⟨p7, q7⟩, ⟨p8, q8⟩, ⟨p9, q9⟩, ⟨p10, q10⟩, ⟨p11, q11⟩⟩ := c12 hx
  clear p0 q0 p1 q1 p2 q2 p3 q3 p4 q4 p5 q5 p6 q6 p7 q7 p8 q8 p9 q9 p10 q10 p11 q11
  refine wp_region_F (fun w_ => GN W5 w_) GN (fun k_ v_ w_ => match k_ with
      | 0 => v_ = .pointer (some ⟨w.heap.size, 7, none⟩)
      | 1 => v_ = .int .i64 sz
      | 2 => v_ = .int .u32 ((logN sz : Nat) : Int)
      | 3 => v_ = .int .u32 ((logN sz * 4096 % 4294967296 : Nat) : Int)
      | 4 => v_ = .int .u32 ((or32 (47) (logN sz * 4096 % 4294967296) : Nat) : Int)
      | 5 => v_ = .int .i64 20
      | 6 => v_ = .int .u32 20
      | 7 => v_ = .int .u32 2684354560
      | 8 => v_ = .int .u32 ((or32 (or32 (47) (logN sz * 4096 % 4294967296)) (2684354560) : Nat) : Int)
      | 9 => v_ = .agg #[.int .i64 46, .int .i64 rd, .int .i64 r1, .int .i64 r2, .int .i64 r3, .int .i64 rm, .int .i64 c, .int .i64 sz, .int .i64 i, .bool ui, .bool us, .bool wd]
      | 10 => v_ = .int .u32 ((rN rd r1 r2 : Nat) : Int)
      | 11 => v_ = .int .u32 ((or32 (or32 (or32 (47) (logN sz * 4096 % 4294967296)) (2684354560)) (rN rd r1 r2) : Nat) : Int)
      | 12 => v_ = .int .u32 ((or32 (or32 (or32 (47) (logN sz * 4096 % 4294967296)) (2684354560)) (rN rd r1 r2) : Nat) : Int)
      | _ => v_ = .bool true) fol (by kernel_rfl) ?_ ?_ ?_ ?_
  · exact (GN.refl W5).drew
  · intro k_ v_ w_ w2_ h1 hg
    split at h1 <;> exact h1
  · intro vals
    show wpG _ _ _ _ _ _ 0 (_ :: _) _
    refine wpG_cons (gval (.pointer (some ⟨w.heap.size, 7, none⟩)) GN.refl fun w_ hJ hd => ?_) ?_
    · exact ⟨by kernel_rfl, by kernel_rfl, rfl⟩
    refine wpG_cons (gop (Instr.loadAt 3 (.pointer (some ⟨w.heap.size, 7, none⟩))) (.int .i64 sz) GN.refl fun w_ hJ hd => ?_) ?_
    · have e0 : vals 0 = _ := hd 0 (by decide) (by kernel_rfl)
      rw [e0]
      exact ⟨by kernel_rfl, by kernel_rfl, run_load1 (by kernel_rfl) (c12 (GN.heap hJ hx)).2.2.2.2.2.2.2.1.1, rfl⟩
    refine wpG_cons (gcall 48 #[.int .i64 sz] fun w_ hJ hd => ?_) ?_
    · have e1 : vals 1 = _ := hd 1 (by decide) (by kernel_rfl)
      rw [e1]
      exact ⟨by kernel_rfl, by kernel_rfl, (log_any sz hs1 hs2 w_).mono fun e w2 ⟨he, m, hw⟩ => ⟨_, he, by subst hw; exact hJ.drewN _, by subst hw; exact (GN.refl w_).drewN _, rfl⟩⟩
    refine wpG_cons (gop (binOp .shl 22 (.int .u32 ((logN sz : Nat) : Int)) (.int .u64 12)) (.int .u32 ((logN sz * 4096 % 4294967296 : Nat) : Int)) GN.refl fun w_ hJ hd => ?_) ?_
    · have e2 : vals 2 = _ := hd 2 (by decide) (by kernel_rfl)
      rw [e2]
      exact ⟨by kernel_rfl, by kernel_rfl, shl12 (logN sz) w_, rfl⟩
    refine wpG_cons (gop (binOp .or 22 (.int .u32 47) (.int .u32 ((logN sz * 4096 % 4294967296 : Nat) : Int))) (.int .u32 ((or32 (47) (logN sz * 4096 % 4294967296) : Nat) : Int)) GN.refl fun w_ hJ hd => ?_) ?_
    · have e3 : vals 3 = _ := hd 3 (by decide) (by kernel_rfl)
      rw [e3]
      exact ⟨by kernel_rfl, by kernel_rfl, or_run 47 (logN sz * 4096 % 4294967296) w_, rfl⟩
    refine wpG_cons (gval (.int .i64 20) GN.refl fun w_ hJ hd => ?_) ?_
    · exact ⟨by kernel_rfl, by kernel_rfl, rfl⟩
    refine wpG_cons (gval (.int .u32 20) GN.refl fun w_ hJ hd => ?_) ?_
    · have e5 : vals 5 = _ := hd 5 (by decide) (by kernel_rfl)
      rw [e5]
      exact ⟨by kernel_rfl, by kernel_rfl, rfl⟩
    refine wpG_cons (gval (.int .u32 2684354560) GN.refl fun w_ hJ hd => ?_) ?_
    · have e6 : vals 6 = _ := hd 6 (by decide) (by kernel_rfl)
      rw [e6]
      exact ⟨by kernel_rfl, by kernel_rfl, rfl⟩
    refine wpG_cons (gop (binOp .or 22 (.int .u32 ((or32 (47) (logN sz * 4096 % 4294967296) : Nat) : Int)) (.int .u32 2684354560)) (.int .u32 ((or32 (or32 (47) (logN sz * 4096 % 4294967296)) (2684354560) : Nat) : Int)) GN.refl fun w_ hJ hd => ?_) ?_
    · have e4 : vals 4 = _ := hd 4 (by decide) (by kernel_rfl)
      have e7 : vals 7 = _ := hd 7 (by decide) (by kernel_rfl)
      rw [e4, e7]
      exact ⟨by kernel_rfl, by kernel_rfl, or_run _ 2684354560 w_, rfl⟩
    refine wpG_cons (gop (Instr.loadAt 25 (.pointer (some ⟨w.heap.size, 0, none⟩))) (.agg #[.int .i64 46, .int .i64 rd, .int .i64 r1, .int .i64 r2, .int .i64 r3, .int .i64 rm, .int .i64 c, .int .i64 sz, .int .i64 i, .bool ui, .bool us, .bool wd]) GN.refl fun w_ hJ hd => ?_) ?_
    · exact ⟨by kernel_rfl, by kernel_rfl, run_loadRow (GN.heap hJ hx), rfl⟩
    refine wpG_cons (gcall 51 #[.agg #[.int .i64 46, .int .i64 rd, .int .i64 r1, .int .i64 r2, .int .i64 r3, .int .i64 rm, .int .i64 c, .int .i64 sz, .int .i64 i, .bool ui, .bool us, .bool wd]] fun w_ hJ hd => ?_) ?_
    · have e9 : vals 9 = _ := hd 9 (by decide) (by kernel_rfl)
      rw [e9]
      exact ⟨by kernel_rfl, by kernel_rfl, (r_any _ _ _ _ _ _ _ _ _ hi _ _ _ w_).mono fun e w2 ⟨he, hq⟩ => ⟨_, he, GN.trans hJ hq, hq, rfl⟩⟩
    refine wpG_cons (gop (binOp .or 22 (.int .u32 ((or32 (or32 (47) (logN sz * 4096 % 4294967296)) (2684354560) : Nat) : Int)) (.int .u32 ((rN rd r1 r2 : Nat) : Int))) (.int .u32 ((or32 (or32 (or32 (47) (logN sz * 4096 % 4294967296)) (2684354560)) (rN rd r1 r2) : Nat) : Int)) GN.refl fun w_ hJ hd => ?_) ?_
    · have e8 : vals 8 = _ := hd 8 (by decide) (by kernel_rfl)
      have e10 : vals 10 = _ := hd 10 (by decide) (by kernel_rfl)
      rw [e8, e10]
      exact ⟨by kernel_rfl, by kernel_rfl, or_run _ _ w_, rfl⟩
    refine wpG_cons (gval (.int .u32 ((or32 (or32 (or32 (47) (logN sz * 4096 % 4294967296)) (2684354560)) (rN rd r1 r2) : Nat) : Int)) GN.refl fun w_ hJ hd => ?_) ?_
    · have e11 : vals 11 = _ := hd 11 (by decide) (by kernel_rfl)
      rw [e11]
      exact ⟨by kernel_rfl, by kernel_rfl, rfl⟩
    refine wpG_cons (gval (.bool true) GN.refl fun w_ hJ hd => ?_) wpG_nil
    · exact ⟨by kernel_rfl, by kernel_rfl, rfl⟩
  intro vals w_ hJ hf
  have e0 : vals 0 = _ := hf 0 (by decide)
  have e1 : vals 1 = _ := hf 1 (by decide)
  have e2 : vals 2 = _ := hf 2 (by decide)
  have e3 : vals 3 = _ := hf 3 (by decide)
  have e4 : vals 4 = _ := hf 4 (by decide)
  have e5 : vals 5 = _ := hf 5 (by decide)
  have e6 : vals 6 = _ := hf 6 (by decide)
  have e7 : vals 7 = _ := hf 7 (by decide)
  have e8 : vals 8 = _ := hf 8 (by decide)
  have e9 : vals 9 = _ := hf 9 (by decide)
  have e10 : vals 10 = _ := hf 10 (by decide)
  have e11 : vals 11 = _ := hf 11 (by decide)
  have e12 : vals 12 = _ := hf 12 (by decide)
  have e13 : vals 13 = _ := hf 13 (by decide)
  simp only [fillG, Nat.zero_add, Nat.reduceAdd, e0, e1, e2, e3, e4, e5, e6, e7, e8, e9, e10, e11, e12, e13, Act.put, List.setIfInBounds_toArray, List.set_cons_succ, List.set_cons_zero]
  clear e0 e1 e2 e3 e4 e5 e6 e7 e8 e9 e10 e11 e12 e13 hf
  have hgn := GN.trans hgW hJ
  go_wp2
  go_ret2
  exact ⟨rfl, by (repeat (first | with_reducible exact GN.refl _ | with_reducible assumption | (with_reducible refine GN.set ?_ ?_ _ _; rotate_left; · first | assumption | (simp; done)) | with_reducible refine GN.alloc ?_ _ | with_reducible refine GN.drewN ?_ _))⟩

set_option maxRecDepth 100000 in
set_option maxHeartbeats 4000000 in
theorem form_flo (k : Int) (rd r1 r2 r3 rm c sz i : Int) (hi : (Lit.int .i64 i).wf = true) (hz : (Lit.int .i64 sz).wf = true) (ui : Bool) (us wd : Bool) (w : World) (n1 : (k == 1) = false) (n2 : (k == 2) = false) (n3 : (k == 3) = false) (n4 : (k == 4) = false) (n11 : (k == 11) = false) (n12 : (k == 12) = false) (n53 : (k == 53) = false) (n54 : (k == 54) = false) (n31 : (k == 31) = false) (n32 : (k == 32) = false) (n33 : (k == 33) = false) (n34 : (k == 34) = false) (n50 : (k == 50) = false) (n49 : (k == 49) = false) (n51 : (k == 51) = false) (n52 : (k == 52) = false) (n35 : (k == 35) = false) (n36 : (k == 36) = false) (n37 : (k == 37) = false) (hb : placeN brL k = -1) (ha : placeN atL k = -1) (hs : (sumN k rd r1 r2 i ui wd).2 = false) : Calls Try.prog 33 #[.agg #[.int .i64 k, .int .i64 rd, .int .i64 r1, .int .i64 r2, .int .i64 r3, .int .i64 rm, .int .i64 c, .int .i64 sz, .int .i64 i, .bool ui, .bool us, .bool wd]] w fun e w' => e = .returned (.tuple #[.int .u32 ((floN k rd r1 r2 r3 rm sz us wd).1 : Nat), .bool (floN k rd r1 r2 r3 rm sz us wd).2]) ∧ GN w w' := by
  go_enter Try.func33, Try.ntmps33
  go_upto_region 2 with (first | (go_at_call 21; refine (branches_ab _).mono ?_; rintro _ _ ⟨B, hB, rfl, o_, rfl⟩) | (go_at_call 38; refine (atomics_ab _).mono ?_; rintro _ _ ⟨A, hA, rfl, o_, rfl⟩) | (refine wpL_store_row rfl 38 (.tmp 4) (.tmp 12) rfl _ B rfl rfl 38 #[.int .i64 0, .int .i64 0, .int .i64 0, .int .i64 0, .int .i64 0, .int .i64 0, .int .i64 0, .int .i64 0] ?_ (info38 hB).1 (info38 hB).2.1 (info38 hB).2.2 ?_; · exact hp_alloc (hp_last (by simp))) | (refine wpL_store_row rfl 52 (.tmp 5) (.tmp 13) rfl _ A rfl rfl 52 #[.int .i64 0, .int .i64 0, .int .i64 0, .int .i64 0, .int .i64 0, .int .i64 0, .int .i64 0, .int .i64 0, .int .i64 0, .int .i64 0, .int .i64 0, .int .i64 0, .int .i64 0, .int .i64 0, .int .i64 0, .int .i64 0, .int .i64 0, .int .i64 0, .int .i64 0, .int .i64 0, .int .i64 0, .int .i64 0, .int .i64 0, .int .i64 0, .int .i64 0, .int .i64 0, .int .i64 0, .int .i64 0, .int .i64 0, .int .i64 0, .int .i64 0, .int .i64 0] ?_ (info52 hA).1 (info52 hA).2.1 (info52 hA).2.2 ?_; · exact row_ne (by omega) (hp_last (by simp))))
  with_reducible refine form_start fun W hgW hx h5 h6 => ?_
  generalize hg5 : w.heap.size + 1 + 1 + 1 = g5 at *
  generalize hg6 : g5 + 1 = g6 at *
  clear hg5 hg6
  have W1 := lt_of_heap' hx
  have W2 := lt_of_heap' h5
  have W3 := lt_of_heap' h6
  obtain ⟨⟨p0, q0⟩, ⟨p1, q1⟩, ⟨p2, q2⟩, ⟨p3, q3⟩, ⟨p4, q4⟩, ⟨p5, q5⟩, ⟨p6, q6⟩, ⟨p7, q7⟩, ⟨p8, q8⟩, ⟨p9, q9⟩, ⟨p10, q10⟩, ⟨p11, q11⟩⟩ := c12 hx
  go_upto_region 41 with fail
  have C5 := hide (cells_of (l := brL) (unhide hB) h5)
  go_quiet ((go_at_call 52; exact Calls.quiet_of (place_any brL k g5 8 rfl (by decide) _ (unhide C5))))
  clear C5
  go_upto_region 44 with fail
  clear p0 q0 p1 q1 p2 q2 p3 q3 p4 q4 p5 q5 p6 q6 p7 q7 p8 q8 p9 q9 p10 q10 p11 q11 W1 W2 W3
  refine cutF (w := w) (g5 := g5) (g6 := g6) (GN.drewN hgW _) hx h5 h6 fun W4 hgWn hxn h5n h6n => ?_
  clear hgW hx h5 h6 
  have hgW := hgWn
  have hx := hxn
  have h5 := h5n
  have h6 := h6n
  clear hgWn hxn h5n h6n
  have W1 := lt_of_heap' hx
  have W2 := lt_of_heap' h5
  have W3 := lt_of_heap' h6
  obtain ⟨⟨p0, q0⟩, ⟨p1, q1⟩, ⟨p2, q2⟩, ⟨p3, q3⟩, ⟨p4, q4⟩, ⟨p5, q5⟩, ⟨p6, q6⟩, ⟨p7, q7⟩, ⟨p8, q8⟩, ⟨p9, q9⟩, ⟨p10, q10⟩, ⟨p11, q11⟩⟩ := c12 hx
  have C6 := hide (cells_of (l := atL) (unhide hA) h6)
  go_quiet ((go_at_call 52; exact Calls.quiet_of (place_any atL k g6 32 rfl (by decide) _ (unhide C6))))
  clear C6
  go_upto_region 48 with (go_at_call 53; refine (sum_any _ _ _ _ _ _ _ _ _ (by assumption) _ _ _ _).mono ?_; rintro _ w53 ⟨rfl, hq⟩)
  have hgn : GN w w53 := GN.trans (by (repeat (first | with_reducible exact GN.refl _ | with_reducible assumption | (with_reducible refine GN.set ?_ ?_ _ _; rotate_left; · first | assumption | (simp; done)) | with_reducible refine GN.alloc ?_ _ | with_reducible refine GN.drewN ?_ _))) hq
  have hx9 := GN.heap hq (o := .cells #[.int .i64 k, .int .i64 rd, .int .i64 r1, .int .i64 r2, .int .i64 r3, .int .i64 rm, .int .i64 c, .int .i64 sz, .int .i64 i, .bool ui, .bool us, .bool wd] 25) (b := w.heap.size) (by (repeat (first | with_reducible assumption | with_reducible apply hp_row12 | (with_reducible refine hp_last ?_; · simp) | (with_reducible refine hp_set ?_ ?_; · first | assumption | (simp; done)) | with_reducible refine hp_drewN ?_ | with_reducible refine hp_alloc ?_)))
  obtain ⟨⟨a0, b0⟩, ⟨a1, b1⟩, ⟨a2, b2⟩, ⟨a3, b3⟩, ⟨a4, b4⟩, ⟨a5, b5⟩, ⟨a6, b6⟩, ⟨a7, b7⟩, ⟨a8, b8⟩, ⟨a9, b9⟩, ⟨a10, b10⟩, ⟨a11, b11⟩⟩ := c12 hx9
  clear hq
  go_wp2_with (go_at_call 54; refine (flo_any _ _ _ _ _ _ _ _ _ (by assumption) _ _ _ _).mono ?_; rintro _ w54 ⟨rfl, hq⟩)
  have hgn2 : GN w w54 := GN.trans hgn hq
  go_ret2
  exact ⟨rfl, hgn2⟩
end Go.Proofs.Ytopbdiekfhikmaa
