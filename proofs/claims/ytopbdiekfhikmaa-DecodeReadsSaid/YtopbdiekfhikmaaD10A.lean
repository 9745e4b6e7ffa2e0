/- Layer 3: Decode (leaves). -/
import Derived.Test.YtopbdiekfhikmaaD10
namespace Go.Proofs.Ytopbdiekfhikmaa
open Go.RowKit
set_option maxRecDepth 100000 in
set_option maxHeartbeats 4000000 in
theorem dec_0 (b : Nat) (hb : b < 4294967296) (f : Nat) (rd r1 r2 : Nat) (hop : fd b 0 7 = 55) (hf : fd b 12 3 = f) (hrd : fd b 7 5 = rd) (hr1 : fd b 15 5 = r1) (hr2 : fd b 20 5 = r2) (w : World) : Calls Try.prog 10 #[.int .u32 b] w fun r w' => r = .returned (insV (decK b 55 f rd r1 r2)) ∧ GN w w'  := by
  have hf8 : f < 8 := hf ▸ fd_lt b 12 3
  have hf' := hide hf
  have hrd' := hide hrd
  have hr1' := hide hr1
  have hr2' := hide hr2
  have tt := True.intro
  have hl := hide (show decK b 55 f rd r1 r2 = (⟨1, rd, 0, 0, 0, 0, 0, 0, immU b, false, false, false⟩ : Ins) from by simp [decK])
  go_enter Try.func10, Try.ntmps10
  go_wp2_with (first | (go_at_call 14; refine (bits_any _ _ _ (by assumption) (by decide) (by decide) (by decide) _).mono ?_; rintro _ _ ⟨rfl, m_, rfl⟩) | (go_at_call 15; refine (rd_any _ (by assumption) _).mono ?_; rintro _ _ ⟨rfl, m_, rfl⟩) | (go_at_call 18; refine (f3_any _ (by assumption) _).mono ?_; rintro _ _ ⟨rfl, m_, rfl⟩) | (go_at_call 19; refine (rs1_any _ (by assumption) _).mono ?_; rintro _ _ ⟨rfl, m_, rfl⟩) | (go_at_call 20; refine (immI_any _ (by assumption) _).mono ?_; rintro _ _ ⟨rfl, m_, rfl⟩) | (go_at_call 22; refine (rs2_any _ (by assumption) _).mono ?_; rintro _ _ ⟨rfl, m_, rfl⟩) | (go_at_call 25; refine (immS_any _ (by assumption) _).mono ?_; rintro _ _ ⟨rfl, m_, rfl⟩) | (go_at_call 16; refine (immU_any _ (by assumption) _).mono ?_; rintro _ _ ⟨rfl, m_, rfl⟩) | (go_at_call 17; refine (immJ_any _ (by assumption) _).mono ?_; rintro _ _ ⟨rfl, m_, rfl⟩) | (go_at_call 23; refine (immB_any _ (by assumption) _).mono ?_; rintro _ _ ⟨rfl, m_, rfl⟩) | (go_at_call 21; refine (branches_any _).mono ?_; rintro _ _ ⟨rfl, o_, rfl⟩) | (go_at_call 24; refine (loads_any _).mono ?_; rintro _ _ ⟨rfl, o_, rfl⟩))
  refine fin25 2 rfl rfl rfl ⟨_, by (repeat (first | with_reducible assumption | with_reducible apply hp_row12 | (with_reducible refine hp_last ?_; · simp) | (with_reducible refine hp_set ?_ ?_; · first | assumption | (simp; done)) | with_reducible refine hp_drewN ?_ | with_reducible refine hp_alloc ?_)), rfl, ?_, ?_⟩
  · rw [unhide hl]; rfl
  · (repeat (first | with_reducible exact GN.refl _ | with_reducible assumption | (with_reducible refine GN.set ?_ ?_ _ _; rotate_left; · first | assumption | (simp; done)) | with_reducible refine GN.alloc ?_ _ | with_reducible refine GN.drewN ?_ _))
set_option maxRecDepth 100000 in
set_option maxHeartbeats 4000000 in
theorem dec_4 (b : Nat) (hb : b < 4294967296) (f : Nat) (rd r1 r2 : Nat) (hop : fd b 0 7 = 103) (hf : fd b 12 3 = f) (hrd : fd b 7 5 = rd) (hr1 : fd b 15 5 = r1) (hr2 : fd b 20 5 = r2) (f0 : f ≠ 0) (w : World) : Calls Try.prog 10 #[.int .u32 b] w fun r w' => r = .returned (insV (decK b 103 f rd r1 r2)) ∧ GN w w'  := by
  have hf8 : f < 8 := hf ▸ fd_lt b 12 3
  have hf' := hide hf
  have hrd' := hide hrd
  have hr1' := hide hr1
  have hr2' := hide hr2
  have n0 := ne_b (show ((f : Nat) : Int) ≠ 0 by omega)
  have hl := hide (show decK b 103 f rd r1 r2 = fallN (floatN b) from by simp [decK, f0])
  go_enter Try.func10, Try.ntmps10
  go_upto_region 40 with (first | (go_at_call 14; refine (bits_any _ _ _ (by assumption) (by decide) (by decide) (by decide) _).mono ?_; rintro _ _ ⟨rfl, m_, rfl⟩) | (go_at_call 15; refine (rd_any _ (by assumption) _).mono ?_; rintro _ _ ⟨rfl, m_, rfl⟩) | (go_at_call 18; refine (f3_any _ (by assumption) _).mono ?_; rintro _ _ ⟨rfl, m_, rfl⟩) | (go_at_call 19; refine (rs1_any _ (by assumption) _).mono ?_; rintro _ _ ⟨rfl, m_, rfl⟩) | (go_at_call 20; refine (immI_any _ (by assumption) _).mono ?_; rintro _ _ ⟨rfl, m_, rfl⟩) | (go_at_call 22; refine (rs2_any _ (by assumption) _).mono ?_; rintro _ _ ⟨rfl, m_, rfl⟩) | (go_at_call 25; refine (immS_any _ (by assumption) _).mono ?_; rintro _ _ ⟨rfl, m_, rfl⟩) | (go_at_call 16; refine (immU_any _ (by assumption) _).mono ?_; rintro _ _ ⟨rfl, m_, rfl⟩) | (go_at_call 17; refine (immJ_any _ (by assumption) _).mono ?_; rintro _ _ ⟨rfl, m_, rfl⟩) | (go_at_call 23; refine (immB_any _ (by assumption) _).mono ?_; rintro _ _ ⟨rfl, m_, rfl⟩) | (go_at_call 21; refine (branches_any _).mono ?_; rintro _ _ ⟨rfl, o_, rfl⟩) | (go_at_call 24; refine (loads_any _).mono ?_; rintro _ _ ⟨rfl, o_, rfl⟩))
  go_at_call 30
  refine (ag_of (float_any _ (by assumption) _)).mono ?_
  rintro _ w30 ⟨y, hy, rfl, hq⟩
  have hgn : GN w w30 := GN.trans (by (repeat (first | with_reducible exact GN.refl _ | with_reducible assumption | (with_reducible refine GN.set ?_ ?_ _ _; rotate_left; · first | assumption | (simp; done)) | with_reducible refine GN.alloc ?_ _ | with_reducible refine GN.drewN ?_ _))) hq
  have hz := hp_gn hq (g := w.heap.size) (o := .cells #[.int .i64 0, .int .i64 0, .int .i64 0, .int .i64 0, .int .i64 0, .int .i64 0, .int .i64 0, .int .i64 0, .int .i64 0, .bool false, .bool false, .bool false] 25) (by (repeat (first | with_reducible assumption | with_reducible apply hp_row12 | (with_reducible refine hp_last ?_; · simp) | (with_reducible refine hp_set ?_ ?_; · first | assumption | (simp; done)) | with_reducible refine hp_drewN ?_ | with_reducible refine hp_alloc ?_)))
  have hz4 := hp_gn hq (g := w.heap.size + 1) (o := .cells #[.int .i64 0, .int .i64 0, .int .i64 0, .int .i64 0, .int .i64 0, .int .i64 0, .int .i64 0, .int .i64 0, .int .i64 0, .bool false, .bool false, .bool false] 25) (by (repeat (first | with_reducible assumption | with_reducible apply hp_row12 | (with_reducible refine hp_last ?_; · simp) | (with_reducible refine hp_set ?_ ?_; · first | assumption | (simp; done)) | with_reducible refine hp_drewN ?_ | with_reducible refine hp_alloc ?_)))
  obtain ⟨⟨p0, q0⟩, ⟨p1, q1⟩, ⟨p2, q2⟩, ⟨p3, q3⟩, ⟨p4, q4⟩, ⟨p5, q5⟩, ⟨p6, q6⟩, ⟨p7, q7⟩, ⟨p8, q8⟩, ⟨p9, q9⟩, ⟨p10, q10⟩, ⟨p11, q11⟩⟩ := c12 hz
  obtain ⟨⟨p40, q40⟩, ⟨p41, q41⟩, ⟨p42, q42⟩, ⟨p43, q43⟩, ⟨p44, q44⟩, ⟨p45, q45⟩, ⟨p46, q46⟩, ⟨p47, q47⟩, ⟨p48, q48⟩, ⟨p49, q49⟩, ⟨p410, q410⟩, ⟨p411, q411⟩⟩ := c12 hz4
  have l1 := lt_of_heap' hz
  have l2 := lt_of_heap' hz4
  have m1 : w30.heap.size ≠ w.heap.size := by omega
  have m2 : w30.heap.size ≠ w.heap.size + 1 := by omega
  have m3 := m1.symm
  have m4 := m2.symm
  have hwg : w.heap.size ≤ w30.heap.size := by omega
  clear hq
  go_upto_region 40 with fail
  obtain ⟨k, rd3, q1_, q2_, q3_, q4_, q5_, q6_, q7_, u1_, u2_, u3_⟩ := y
  have hk : k = 0 ∨ k ≠ 0 := by omega
  rcases hk with rfl | hk
  · have tt := True.intro
    go_wp2_with fail
    refine fin25 2 rfl rfl rfl ⟨_, by (repeat (first | with_reducible assumption | with_reducible apply hp_row12 | (with_reducible refine hp_last ?_; · simp) | (with_reducible refine hp_set ?_ ?_; · first | assumption | (simp; done)) | with_reducible refine hp_drewN ?_ | with_reducible refine hp_alloc ?_)), rfl, ?_, ?_⟩
    · rw [unhide hl]; unfold fallN; rw [show floatN b = _ from unhide hy, if_pos rfl]; rfl
    · (repeat (first | with_reducible exact GN.refl _ | with_reducible assumption | (with_reducible refine GN.set ?_ ?_ _ _; rotate_left; · first | assumption | (simp; done)) | with_reducible refine GN.alloc ?_ _ | with_reducible refine GN.drewN ?_ _))
  · have nk := ne_t hk
    go_wp2_with fail
    refine fin25 2 rfl rfl rfl ⟨_, by (repeat (first | with_reducible assumption | with_reducible apply hp_row12 | (with_reducible refine hp_last ?_; · simp) | (with_reducible refine hp_set ?_ ?_; · first | assumption | (simp; done)) | with_reducible refine hp_drewN ?_ | with_reducible refine hp_alloc ?_)), rfl, ?_, ?_⟩
    · rw [unhide hl]; unfold fallN; rw [show floatN b = _ from unhide hy, if_neg hk]; rfl
    · (repeat (first | with_reducible exact GN.refl _ | with_reducible assumption | (with_reducible refine GN.set ?_ ?_ _ _; rotate_left; · first | assumption | (simp; done)) | with_reducible refine GN.alloc ?_ _ | with_reducible refine GN.drewN ?_ _))
set_option maxRecDepth 100000 in
set_option maxHeartbeats 4000000 in
theorem dec_8 (b : Nat) (hb : b < 4294967296) (f : Nat) (rd r1 r2 : Nat) (hop : fd b 0 7 = 3) (hf : fd b 12 3 = f) (hrd : fd b 7 5 = rd) (hr1 : fd b 15 5 = r1) (hr2 : fd b 20 5 = r2) (k0 : ldK f ≠ 0) (w : World) : Calls Try.prog 10 #[.int .u32 b] w fun r w' => r = .returned (insV (decK b 3 f rd r1 r2)) ∧ GN w w'  := by
  have hf8 : f < 8 := hf ▸ fd_lt b 12 3
  have hf' := hide hf
  have hrd' := hide hrd
  have hr1' := hide hr1
  have hr2' := hide hr2
  have i1 := ix_loads f f rfl hf8
  obtain ⟨k, hk⟩ : ∃ k, ldK f = k := ⟨_, rfl⟩
  obtain ⟨z, hzz⟩ : ∃ k, ldS f = k := ⟨_, rfl⟩
  obtain ⟨u, hu⟩ : ∃ k, ldU f = k := ⟨_, rfl⟩
  rw [hk, hzz, hu] at i1
  rw [hk] at k0
  have Hk := hide hk
  have Hz := hide hzz
  have Hu := hide hu
  clear hk hzz hu
  have nk := ne_t k0
  have hl := hide (show decK b 3 f rd r1 r2 = (⟨k, rd, r1, 0, 0, 0, 0, z, immI b, false, u, false⟩ : Ins) from by simp [decK, unhide Hk, unhide Hz, unhide Hu, k0])
  go_enter Try.func10, Try.ntmps10
  go_upto_region 20 with (first | (go_at_call 14; refine (bits_any _ _ _ (by assumption) (by decide) (by decide) (by decide) _).mono ?_; rintro _ _ ⟨rfl, m_, rfl⟩) | (go_at_call 15; refine (rd_any _ (by assumption) _).mono ?_; rintro _ _ ⟨rfl, m_, rfl⟩) | (go_at_call 18; refine (f3_any _ (by assumption) _).mono ?_; rintro _ _ ⟨rfl, m_, rfl⟩) | (go_at_call 19; refine (rs1_any _ (by assumption) _).mono ?_; rintro _ _ ⟨rfl, m_, rfl⟩) | (go_at_call 20; refine (immI_any _ (by assumption) _).mono ?_; rintro _ _ ⟨rfl, m_, rfl⟩) | (go_at_call 22; refine (rs2_any _ (by assumption) _).mono ?_; rintro _ _ ⟨rfl, m_, rfl⟩) | (go_at_call 25; refine (immS_any _ (by assumption) _).mono ?_; rintro _ _ ⟨rfl, m_, rfl⟩) | (go_at_call 16; refine (immU_any _ (by assumption) _).mono ?_; rintro _ _ ⟨rfl, m_, rfl⟩) | (go_at_call 17; refine (immJ_any _ (by assumption) _).mono ?_; rintro _ _ ⟨rfl, m_, rfl⟩) | (go_at_call 23; refine (immB_any _ (by assumption) _).mono ?_; rintro _ _ ⟨rfl, m_, rfl⟩) | (go_at_call 21; refine (branches_any _).mono ?_; rintro _ _ ⟨rfl, o_, rfl⟩) | (go_at_call 24; refine (loads_any _).mono ?_; rintro _ _ ⟨rfl, o_, rfl⟩))
  refine cut3 (w := w) (g6 := w.heap.size + 1 + 1 + 1) (z := #[.int .i64 0, .int .i64 0, .int .i64 0, .int .i64 0, .int .i64 0, .int .i64 0, .int .i64 0, .int .i64 0, .int .i64 0, .bool false, .bool false, .bool false]) (x := #[.int .i64 k, .int .i64 z, .bool u]) ?_ ?_ ?_ fun W hgW hzW h6 => ?_
  · (repeat (first | with_reducible exact GN.refl _ | with_reducible assumption | (with_reducible refine GN.set ?_ ?_ _ _; rotate_left; · first | assumption | (simp; done)) | with_reducible refine GN.alloc ?_ _ | with_reducible refine GN.drewN ?_ _))
  · (repeat (first | with_reducible assumption | with_reducible apply hp_row12 | (with_reducible refine hp_last ?_; · simp) | (with_reducible refine hp_set ?_ ?_; · first | assumption | (simp; done)) | with_reducible refine hp_drewN ?_ | with_reducible refine hp_alloc ?_))
  · (repeat (first | with_reducible assumption | with_reducible apply hp_row12 | (with_reducible refine hp_last ?_; · simp) | (with_reducible refine hp_set ?_ ?_; · first | assumption | (simp; done)) | with_reducible refine hp_drewN ?_ | with_reducible refine hp_alloc ?_))
  generalize w.heap.size + 1 + 1 + 1 = g6 at *
  refine wp_region_E (fun w_ => GN W w_) GN (fun k_ v_ w_ => match k_ with
      | 0 => v_ = .pointer (some ⟨g6, 0, none⟩)
      | 1 => v_ = .int .i64 k
      | 2 => v_ = .int .u32 (b : Int)
      | 3 => v_ = .int .i64 (rd : Int)
      | 4 => v_ = .int .u32 (b : Int)
      | 5 => v_ = .int .i64 (r1 : Int)
      | 6 => v_ = .int .u32 (b : Int)
      | 7 => v_ = .int .i64 (immI b)
      | 8 => v_ = .pointer (some ⟨g6, 1, none⟩)
      | 9 => v_ = .int .i64 z
      | 10 => v_ = .pointer (some ⟨g6, 2, none⟩)
      | 11 => v_ = .bool u
      | _ => v_ = .agg #[.int .i64 k, .int .i64 (rd : Int), .int .i64 (r1 : Int), .int .i64 0, .int .i64 0, .int .i64 0, .int .i64 0, .int .i64 z, .int .i64 (immI b), .bool false, .bool u, .bool false]) fol (by kernel_rfl) ?_ ?_ (n := 13) rfl rfl rfl (by kernel_rfl) ?_ ?_
  · exact (GN.refl W).drew
  · intro k_ v_ w_ w2_ h1 hg
    split at h1 <;> exact h1
  · intro vals
    show wpG _ _ _ _ _ _ 0 (_ :: _) _
    refine wpG_cons (gval (.pointer (some ⟨g6, 0, none⟩)) GN.refl fun w_ hJ hd => ?_) ?_
    · exact ⟨by kernel_rfl, by kernel_rfl, rfl⟩
    refine wpG_cons (gop (Instr.loadAt 3 (.pointer (some ⟨g6, 0, none⟩))) (.int .i64 k) GN.refl fun w_ hJ hd => ?_) ?_
    · have e0 : vals 0 = _ := hd 0 (by decide) (by kernel_rfl)
      rw [e0]
      exact ⟨by kernel_rfl, by kernel_rfl, run_load1 (by kernel_rfl) (c3c (GN.heap hJ h6)).1.1, rfl⟩
    refine wpG_cons (gval (.int .u32 (b : Int)) GN.refl fun w_ hJ hd => ?_) ?_
    · exact ⟨by kernel_rfl, by kernel_rfl, rfl⟩
    refine wpG_cons (gcall 15 #[.int .u32 (b : Int)] fun w_ hJ hd => ?_) ?_
    · have e2 : vals 2 = _ := hd 2 (by decide) (by kernel_rfl)
      rw [e2]
      exact ⟨by kernel_rfl, by kernel_rfl, (rd_any b hb w_).mono fun e w2 ⟨he, m, hw⟩ => ⟨_, he, by subst hw; exact hJ.drewN _, by subst hw; exact (GN.refl w_).drewN _, by rw [hrd]; exact rfl⟩⟩
    refine wpG_cons (gval (.int .u32 (b : Int)) GN.refl fun w_ hJ hd => ?_) ?_
    · exact ⟨by kernel_rfl, by kernel_rfl, rfl⟩
    refine wpG_cons (gcall 19 #[.int .u32 (b : Int)] fun w_ hJ hd => ?_) ?_
    · have e4 : vals 4 = _ := hd 4 (by decide) (by kernel_rfl)
      rw [e4]
      exact ⟨by kernel_rfl, by kernel_rfl, (rs1_any b hb w_).mono fun e w2 ⟨he, m, hw⟩ => ⟨_, he, by subst hw; exact hJ.drewN _, by subst hw; exact (GN.refl w_).drewN _, by rw [hr1]; exact rfl⟩⟩
    refine wpG_cons (gval (.int .u32 (b : Int)) GN.refl fun w_ hJ hd => ?_) ?_
    · exact ⟨by kernel_rfl, by kernel_rfl, rfl⟩
    refine wpG_cons (gcall 20 #[.int .u32 (b : Int)] fun w_ hJ hd => ?_) ?_
    · have e6 : vals 6 = _ := hd 6 (by decide) (by kernel_rfl)
      rw [e6]
      exact ⟨by kernel_rfl, by kernel_rfl, (immI_any b hb w_).mono fun e w2 ⟨he, m, hw⟩ => ⟨_, he, by subst hw; exact hJ.drewN _, by subst hw; exact (GN.refl w_).drewN _, rfl⟩⟩
    refine wpG_cons (gval (.pointer (some ⟨g6, 1, none⟩)) GN.refl fun w_ hJ hd => ?_) ?_
    · exact ⟨by kernel_rfl, by kernel_rfl, rfl⟩
    refine wpG_cons (gop (Instr.loadAt 3 (.pointer (some ⟨g6, 1, none⟩))) (.int .i64 z) GN.refl fun w_ hJ hd => ?_) ?_
    · have e8 : vals 8 = _ := hd 8 (by decide) (by kernel_rfl)
      rw [e8]
      exact ⟨by kernel_rfl, by kernel_rfl, run_load1 (by kernel_rfl) (c3c (GN.heap hJ h6)).2.1.1, rfl⟩
    refine wpG_cons (gval (.pointer (some ⟨g6, 2, none⟩)) GN.refl fun w_ hJ hd => ?_) ?_
    · exact ⟨by kernel_rfl, by kernel_rfl, rfl⟩
    refine wpG_cons (gop (Instr.loadAt 4 (.pointer (some ⟨g6, 2, none⟩))) (.bool u) GN.refl fun w_ hJ hd => ?_) ?_
    · have e10 : vals 10 = _ := hd 10 (by decide) (by kernel_rfl)
      rw [e10]
      exact ⟨by kernel_rfl, by kernel_rfl, run_load1 (by kernel_rfl) (c3c (GN.heap hJ h6)).2.2.1, rfl⟩
    refine wpG_cons (gval (.agg #[.int .i64 k, .int .i64 (rd : Int), .int .i64 (r1 : Int), .int .i64 0, .int .i64 0, .int .i64 0, .int .i64 0, .int .i64 z, .int .i64 (immI b), .bool false, .bool u, .bool false]) GN.refl fun w_ hJ hd => ?_) wpG_nil
    · have e1 : vals 1 = _ := hd 1 (by decide) (by kernel_rfl)
      have e3 : vals 3 = _ := hd 3 (by decide) (by kernel_rfl)
      have e5 : vals 5 = _ := hd 5 (by decide) (by kernel_rfl)
      have e7 : vals 7 = _ := hd 7 (by decide) (by kernel_rfl)
      have e9 : vals 9 = _ := hd 9 (by decide) (by kernel_rfl)
      have e11 : vals 11 = _ := hd 11 (by decide) (by kernel_rfl)
      rw [e1, e3, e5, e7, e9, e11]
      exact ⟨by kernel_rfl, by kernel_rfl, rfl⟩
  intro vals w_ hJ hf
  have e0 : vals 0 = _ := hf 0 (by decide)
  have e1 : vals 1 = _ := hf 1 (by decide)
  have e2 : vals 2 = _ := hf 2 (by decide)
  have e3 : vals 3 = _ := hf 3 (by decide)
  have e4 : vals 4 = _ := hf 4 (by decide)
  have e5 : vals 5 = _ := hf 5 (by decide)
  have e6 : vals 6 = _ := hf 6 (by decide)
  have e7 : vals 7 = _ := hf 7 (by decide)
  have e8 : vals 8 = _ := hf 8 (by decide)
  have e9 : vals 9 = _ := hf 9 (by decide)
  have e10 : vals 10 = _ := hf 10 (by decide)
  have e11 : vals 11 = _ := hf 11 (by decide)
  have e12 : vals 12 = _ := hf 12 (by decide)
  show Oper.wp _ _ (fillG vals 0 (_ :: _ :: _ :: _ :: _ :: _ :: _ :: _ :: _ :: _ :: _ :: _ :: _ :: []) _) _ _ _
  simp only [fillG, Nat.zero_add, Nat.reduceAdd, e0, e1, e2, e3, e4, e5, e6, e7, e8, e9, e10, e11, e12, Act.put, List.setIfInBounds_toArray, List.set_cons_succ, List.set_cons_zero]
  clear e0 e1 e2 e3 e4 e5 e6 e7 e8 e9 e10 e11 e12 hf
  refine wp_store_row 25 (.tmp 2) (.tmp 82) rfl w.heap.size _ rfl rfl 25 _ (GN.heap hJ hzW) (by kernel_rfl) rfl (by kernel_rfl) ?_
  have k4 := row_self (cs := #[.int .i64 k, .int .i64 (rd : Int), .int .i64 (r1 : Int), .int .i64 0, .int .i64 0, .int .i64 0, .int .i64 0, .int .i64 z, .int .i64 (immI b), .bool false, .bool u, .bool false]) (GN.heap hJ hzW)
  have hgn := GN.setRow (cs := #[.int .i64 k, .int .i64 (rd : Int), .int .i64 (r1 : Int), .int .i64 0, .int .i64 0, .int .i64 0, .int .i64 0, .int .i64 z, .int .i64 (immI b), .bool false, .bool u, .bool false]) (hgW.trans hJ) (Nat.le_refl _)
  generalize w_.setRow w.heap.size _ = w1 at *
  go_wp2
  refine fin25 2 rfl rfl rfl ⟨_, by (repeat (first | with_reducible assumption | with_reducible apply hp_row12 | (with_reducible refine hp_last ?_; · simp) | (with_reducible refine hp_set ?_ ?_; · first | assumption | (simp; done)) | with_reducible refine hp_drewN ?_ | with_reducible refine hp_alloc ?_)), rfl, ?_, ?_⟩
  · rw [unhide hl]; rfl
  · (repeat (first | with_reducible exact GN.refl _ | with_reducible assumption | (with_reducible refine GN.set ?_ ?_ _ _; rotate_left; · first | assumption | (simp; done)) | with_reducible refine GN.alloc ?_ _ | with_reducible refine GN.drewN ?_ _))
set_option maxRecDepth 100000 in
set_option maxHeartbeats 4000000 in
theorem dec_12 (b : Nat) (hb : b < 4294967296) (rd r1 r2 : Nat) (hop : fd b 0 7 = 35) (hf : fd b 12 3 = 3) (hrd : fd b 7 5 = rd) (hr1 : fd b 15 5 = r1) (hr2 : fd b 20 5 = r2) (w : World) : Calls Try.prog 10 #[.int .u32 b] w fun r w' => r = .returned (insV (decK b 35 3 rd r1 r2)) ∧ GN w w'  := by
  have hf' := hide hf
  have hrd' := hide hrd
  have hr1' := hide hr1
  have hr2' := hide hr2
  have tt := True.intro
  have hl := hide (show decK b 35 3 rd r1 r2 = (⟨12, 0, r1, r2, 0, 0, 0, 8, immS b, false, false, false⟩ : Ins) from by simp [decK])
  go_enter Try.func10, Try.ntmps10
  go_wp2_with (first | (go_at_call 14; refine (bits_any _ _ _ (by assumption) (by decide) (by decide) (by decide) _).mono ?_; rintro _ _ ⟨rfl, m_, rfl⟩) | (go_at_call 15; refine (rd_any _ (by assumption) _).mono ?_; rintro _ _ ⟨rfl, m_, rfl⟩) | (go_at_call 18; refine (f3_any _ (by assumption) _).mono ?_; rintro _ _ ⟨rfl, m_, rfl⟩) | (go_at_call 19; refine (rs1_any _ (by assumption) _).mono ?_; rintro _ _ ⟨rfl, m_, rfl⟩) | (go_at_call 20; refine (immI_any _ (by assumption) _).mono ?_; rintro _ _ ⟨rfl, m_, rfl⟩) | (go_at_call 22; refine (rs2_any _ (by assumption) _).mono ?_; rintro _ _ ⟨rfl, m_, rfl⟩) | (go_at_call 25; refine (immS_any _ (by assumption) _).mono ?_; rintro _ _ ⟨rfl, m_, rfl⟩) | (go_at_call 16; refine (immU_any _ (by assumption) _).mono ?_; rintro _ _ ⟨rfl, m_, rfl⟩) | (go_at_call 17; refine (immJ_any _ (by assumption) _).mono ?_; rintro _ _ ⟨rfl, m_, rfl⟩) | (go_at_call 23; refine (immB_any _ (by assumption) _).mono ?_; rintro _ _ ⟨rfl, m_, rfl⟩) | (go_at_call 21; refine (branches_any _).mono ?_; rintro _ _ ⟨rfl, o_, rfl⟩) | (go_at_call 24; refine (loads_any _).mono ?_; rintro _ _ ⟨rfl, o_, rfl⟩))
  refine fin25 2 rfl rfl rfl ⟨_, by (repeat (first | with_reducible assumption | with_reducible apply hp_row12 | (with_reducible refine hp_last ?_; · simp) | (with_reducible refine hp_set ?_ ?_; · first | assumption | (simp; done)) | with_reducible refine hp_drewN ?_ | with_reducible refine hp_alloc ?_)), rfl, ?_, ?_⟩
  · rw [unhide hl]; rfl
  · (repeat (first | with_reducible exact GN.refl _ | with_reducible assumption | (with_reducible refine GN.set ?_ ?_ _ _; rotate_left; · first | assumption | (simp; done)) | with_reducible refine GN.alloc ?_ _ | with_reducible refine GN.drewN ?_ _))
set_option maxRecDepth 100000 in
set_option maxHeartbeats 4000000 in
theorem dec_16 (b : Nat) (hb : b < 4294967296) (f : Nat) (rd r1 r2 : Nat) (hop : fd b 0 7 = 51) (hf : fd b 12 3 = f) (hrd : fd b 7 5 = rd) (hr1 : fd b 15 5 = r1) (hr2 : fd b 20 5 = r2) (w : World) : Calls Try.prog 10 #[.int .u32 b] w fun r w' => r = .returned (insV (decK b 51 f rd r1 r2)) ∧ GN w w'  := by
  have hf8 : f < 8 := hf ▸ fd_lt b 12 3
  have hf' := hide hf
  have hrd' := hide hrd
  have hr1' := hide hr1
  have hr2' := hide hr2
  have tt := True.intro
  have hl := hide (show decK b 51 f rd r1 r2 = regK f (fd b 25 7) rd r1 r2 false from by simp [decK])
  go_enter Try.func10, Try.ntmps10
  go_wp2_with (first | (go_at_call 14; refine (bits_any _ _ _ (by assumption) (by decide) (by decide) (by decide) _).mono ?_; rintro _ _ ⟨rfl, m_, rfl⟩) | (go_at_call 15; refine (rd_any _ (by assumption) _).mono ?_; rintro _ _ ⟨rfl, m_, rfl⟩) | (go_at_call 18; refine (f3_any _ (by assumption) _).mono ?_; rintro _ _ ⟨rfl, m_, rfl⟩) | (go_at_call 19; refine (rs1_any _ (by assumption) _).mono ?_; rintro _ _ ⟨rfl, m_, rfl⟩) | (go_at_call 20; refine (immI_any _ (by assumption) _).mono ?_; rintro _ _ ⟨rfl, m_, rfl⟩) | (go_at_call 22; refine (rs2_any _ (by assumption) _).mono ?_; rintro _ _ ⟨rfl, m_, rfl⟩) | (go_at_call 25; refine (immS_any _ (by assumption) _).mono ?_; rintro _ _ ⟨rfl, m_, rfl⟩) | (go_at_call 16; refine (immU_any _ (by assumption) _).mono ?_; rintro _ _ ⟨rfl, m_, rfl⟩) | (go_at_call 17; refine (immJ_any _ (by assumption) _).mono ?_; rintro _ _ ⟨rfl, m_, rfl⟩) | (go_at_call 23; refine (immB_any _ (by assumption) _).mono ?_; rintro _ _ ⟨rfl, m_, rfl⟩) | (go_at_call 21; refine (branches_any _).mono ?_; rintro _ _ ⟨rfl, o_, rfl⟩) | (go_at_call 24; refine (loads_any _).mono ?_; rintro _ _ ⟨rfl, o_, rfl⟩) | (go_at_call 27; refine (ag_of (registers_any _ (by assumption) _ _)).mono ?_; rintro _ w27 ⟨y, hy, rfl, hq⟩; have hgn : GN w w27 := GN.trans (by (repeat (first | with_reducible exact GN.refl _ | with_reducible assumption | (with_reducible refine GN.set ?_ ?_ _ _; rotate_left; · first | assumption | (simp; done)) | with_reducible refine GN.alloc ?_ _ | with_reducible refine GN.drewN ?_ _))) hq; have hz := hp_gn hq (g := w.heap.size) (o := .cells #[.int .i64 0, .int .i64 0, .int .i64 0, .int .i64 0, .int .i64 0, .int .i64 0, .int .i64 0, .int .i64 0, .int .i64 0, .bool false, .bool false, .bool false] 25) (by (repeat (first | with_reducible assumption | with_reducible apply hp_row12 | (with_reducible refine hp_last ?_; · simp) | (with_reducible refine hp_set ?_ ?_; · first | assumption | (simp; done)) | with_reducible refine hp_drewN ?_ | with_reducible refine hp_alloc ?_))); obtain ⟨⟨p0, q0⟩, ⟨p1, q1⟩, ⟨p2, q2⟩, ⟨p3, q3⟩, ⟨p4, q4⟩, ⟨p5, q5⟩, ⟨p6, q6⟩, ⟨p7, q7⟩, ⟨p8, q8⟩, ⟨p9, q9⟩, ⟨p10, q10⟩, ⟨p11, q11⟩⟩ := c12 hz; clear hq))
  refine fin25 2 rfl rfl rfl ⟨_, by (repeat (first | with_reducible assumption | with_reducible apply hp_row12 | (with_reducible refine hp_last ?_; · simp) | (with_reducible refine hp_set ?_ ?_; · first | assumption | (simp; done)) | with_reducible refine hp_drewN ?_ | with_reducible refine hp_alloc ?_)), rfl, ?_, ?_⟩
  · rw [unhide hl, ← unhide hf', ← unhide hrd', ← unhide hr1', ← unhide hr2', unhide hy]; rfl
  · (repeat (first | with_reducible exact GN.refl _ | with_reducible assumption | (with_reducible refine GN.set ?_ ?_ _ _; rotate_left; · first | assumption | (simp; done)) | with_reducible refine GN.alloc ?_ _ | with_reducible refine GN.drewN ?_ _))
set_option maxRecDepth 100000 in
set_option maxHeartbeats 4000000 in
theorem dec_20 (b : Nat) (hb : b < 4294967296) (f : Nat) (rd r1 r2 : Nat) (hop : fd b 0 7 = 115) (hf : fd b 12 3 = f) (hrd : fd b 7 5 = rd) (hr1 : fd b 15 5 = r1) (hr2 : fd b 20 5 = r2) (w : World) : Calls Try.prog 10 #[.int .u32 b] w fun r w' => r = .returned (insV (decK b 115 f rd r1 r2)) ∧ GN w w'  := by
  have hf8 : f < 8 := hf ▸ fd_lt b 12 3
  have hf' := hide hf
  have hrd' := hide hrd
  have hr1' := hide hr1
  have hr2' := hide hr2
  have tt := True.intro
  have hl := hide (show decK b 115 f rd r1 r2 = sysK b f (fd b 25 7) rd r1 r2 (fd b 20 12) from by simp [decK])
  go_enter Try.func10, Try.ntmps10
  go_wp2_with (first | (go_at_call 14; refine (bits_any _ _ _ (by assumption) (by decide) (by decide) (by decide) _).mono ?_; rintro _ _ ⟨rfl, m_, rfl⟩) | (go_at_call 15; refine (rd_any _ (by assumption) _).mono ?_; rintro _ _ ⟨rfl, m_, rfl⟩) | (go_at_call 18; refine (f3_any _ (by assumption) _).mono ?_; rintro _ _ ⟨rfl, m_, rfl⟩) | (go_at_call 19; refine (rs1_any _ (by assumption) _).mono ?_; rintro _ _ ⟨rfl, m_, rfl⟩) | (go_at_call 20; refine (immI_any _ (by assumption) _).mono ?_; rintro _ _ ⟨rfl, m_, rfl⟩) | (go_at_call 22; refine (rs2_any _ (by assumption) _).mono ?_; rintro _ _ ⟨rfl, m_, rfl⟩) | (go_at_call 25; refine (immS_any _ (by assumption) _).mono ?_; rintro _ _ ⟨rfl, m_, rfl⟩) | (go_at_call 16; refine (immU_any _ (by assumption) _).mono ?_; rintro _ _ ⟨rfl, m_, rfl⟩) | (go_at_call 17; refine (immJ_any _ (by assumption) _).mono ?_; rintro _ _ ⟨rfl, m_, rfl⟩) | (go_at_call 23; refine (immB_any _ (by assumption) _).mono ?_; rintro _ _ ⟨rfl, m_, rfl⟩) | (go_at_call 21; refine (branches_any _).mono ?_; rintro _ _ ⟨rfl, o_, rfl⟩) | (go_at_call 24; refine (loads_any _).mono ?_; rintro _ _ ⟨rfl, o_, rfl⟩) | (go_at_call 28; refine (ag_of (system_any _ (by assumption) _)).mono ?_; rintro _ w28 ⟨y, hy, rfl, hq⟩; have hgn : GN w w28 := GN.trans (by (repeat (first | with_reducible exact GN.refl _ | with_reducible assumption | (with_reducible refine GN.set ?_ ?_ _ _; rotate_left; · first | assumption | (simp; done)) | with_reducible refine GN.alloc ?_ _ | with_reducible refine GN.drewN ?_ _))) hq; have hz := hp_gn hq (g := w.heap.size) (o := .cells #[.int .i64 0, .int .i64 0, .int .i64 0, .int .i64 0, .int .i64 0, .int .i64 0, .int .i64 0, .int .i64 0, .int .i64 0, .bool false, .bool false, .bool false] 25) (by (repeat (first | with_reducible assumption | with_reducible apply hp_row12 | (with_reducible refine hp_last ?_; · simp) | (with_reducible refine hp_set ?_ ?_; · first | assumption | (simp; done)) | with_reducible refine hp_drewN ?_ | with_reducible refine hp_alloc ?_))); obtain ⟨⟨p0, q0⟩, ⟨p1, q1⟩, ⟨p2, q2⟩, ⟨p3, q3⟩, ⟨p4, q4⟩, ⟨p5, q5⟩, ⟨p6, q6⟩, ⟨p7, q7⟩, ⟨p8, q8⟩, ⟨p9, q9⟩, ⟨p10, q10⟩, ⟨p11, q11⟩⟩ := c12 hz; clear hq))
  refine fin25 2 rfl rfl rfl ⟨_, by (repeat (first | with_reducible assumption | with_reducible apply hp_row12 | (with_reducible refine hp_last ?_; · simp) | (with_reducible refine hp_set ?_ ?_; · first | assumption | (simp; done)) | with_reducible refine hp_drewN ?_ | with_reducible refine hp_alloc ?_)), rfl, ?_, ?_⟩
  · rw [unhide hl, ← unhide hf', ← unhide hrd', ← unhide hr1', ← unhide hr2', unhide hy]; rfl
  · (repeat (first | with_reducible exact GN.refl _ | with_reducible assumption | (with_reducible refine GN.set ?_ ?_ _ _; rotate_left; · first | assumption | (simp; done)) | with_reducible refine GN.alloc ?_ _ | with_reducible refine GN.drewN ?_ _))
end Go.Proofs.Ytopbdiekfhikmaa
