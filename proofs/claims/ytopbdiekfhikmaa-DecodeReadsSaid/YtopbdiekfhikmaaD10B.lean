/- Layer 3: Decode (leaves). -/
import Derived.Test.YtopbdiekfhikmaaD10
namespace Go.Proofs.Ytopbdiekfhikmaa
open Go.RowKit
set_option maxRecDepth 100000 in
set_option maxHeartbeats 4000000 in
theorem dec_1 (b : Nat) (hb : b < 4294967296) (f : Nat) (rd r1 r2 : Nat) (hop : fd b 0 7 = 23) (hf : fd b 12 3 = f) (hrd : fd b 7 5 = rd) (hr1 : fd b 15 5 = r1) (hr2 : fd b 20 5 = r2) (w : World) : Calls Try.prog 10 #[.int .u32 b] w fun r w' => r = .returned (insV (decK b 23 f rd r1 r2)) ∧ GN w w'  := by
  have hf8 : f < 8 := hf ▸ fd_lt b 12 3
  have hf' := hide hf
  have hrd' := hide hrd
  have hr1' := hide hr1
  have hr2' := hide hr2
  have tt := True.intro
  have hl := hide (show decK b 23 f rd r1 r2 = (⟨2, rd, 0, 0, 0, 0, 0, 0, immU b, false, false, false⟩ : Ins) from by simp [decK])
  go_enter Try.func10, Try.ntmps10
  go_wp2_with (first | (go_at_call 14; refine (bits_any _ _ _ (by assumption) (by decide) (by decide) (by decide) _).mono ?_; rintro _ _ ⟨rfl, m_, rfl⟩) | (go_at_call 15; refine (rd_any _ (by assumption) _).mono ?_; rintro _ _ ⟨rfl, m_, rfl⟩) | (go_at_call 18; refine (f3_any _ (by assumption) _).mono ?_; rintro _ _ ⟨rfl, m_, rfl⟩) | (go_at_call 19; refine (rs1_any _ (by assumption) _).mono ?_; rintro _ _ ⟨rfl, m_, rfl⟩) | (go_at_call 20; refine (immI_any _ (by assumption) _).mono ?_; rintro _ _ ⟨rfl, m_, rfl⟩) | (go_at_call 22; refine (rs2_any _ (by assumption) _).mono ?_; rintro _ _ ⟨rfl, m_, rfl⟩) | (go_at_call 25; refine (immS_any _ (by assumption) _).mono ?_; rintro _ _ ⟨rfl, m_, rfl⟩) | (go_at_call 16; refine (immU_any _ (by assumption) _).mono ?_; rintro _ _ ⟨rfl, m_, rfl⟩) | (go_at_call 17; refine (immJ_any _ (by assumption) _).mono ?_; rintro _ _ ⟨rfl, m_, rfl⟩) | (go_at_call 23; refine (immB_any _ (by assumption) _).mono ?_; rintro _ _ ⟨rfl, m_, rfl⟩) | (go_at_call 21; refine (branches_any _).mono ?_; rintro _ _ ⟨rfl, o_, rfl⟩) | (go_at_call 24; refine (loads_any _).mono ?_; rintro _ _ ⟨rfl, o_, rfl⟩))
  refine fin25 2 rfl rfl rfl ⟨_, by (repeat (first | with_reducible assumption | with_reducible apply hp_row12 | (with_reducible refine hp_last ?_; · simp) | (with_reducible refine hp_set ?_ ?_; · first | assumption | (simp; done)) | with_reducible refine hp_drewN ?_ | with_reducible refine hp_alloc ?_)), rfl, ?_, ?_⟩
  · rw [unhide hl]; rfl
  · (repeat (first | with_reducible exact GN.refl _ | with_reducible assumption | (with_reducible refine GN.set ?_ ?_ _ _; rotate_left; · first | assumption | (simp; done)) | with_reducible refine GN.alloc ?_ _ | with_reducible refine GN.drewN ?_ _))
set_option maxRecDepth 100000 in
set_option maxHeartbeats 4000000 in
theorem dec_5 (b : Nat) (hb : b < 4294967296) (f : Nat) (rd r1 r2 : Nat) (hop : fd b 0 7 = 99) (hf : fd b 12 3 = f) (hrd : fd b 7 5 = rd) (hr1 : fd b 15 5 = r1) (hr2 : fd b 20 5 = r2) (k0 : brK f = 0) (w : World) : Calls Try.prog 10 #[.int .u32 b] w fun r w' => r = .returned (insV (decK b 99 f rd r1 r2)) ∧ GN w w'  := by
  have hf8 : f < 8 := hf ▸ fd_lt b 12 3
  have hf' := hide hf
  have hrd' := hide hrd
  have hr1' := hide hr1
  have hr2' := hide hr2
  have i1 := ix_branches f f rfl hf8
  obtain ⟨k, hk⟩ : ∃ k, brK f = k := ⟨_, rfl⟩
  rw [hk] at i1 k0
  have Hk := hide hk
  clear hk
  subst k0
  have hl := hide (show decK b 99 f rd r1 r2 = fallN (floatN b) from by simp [decK, unhide Hk])
  go_enter Try.func10, Try.ntmps10
  go_upto_region 40 with (first | (go_at_call 14; refine (bits_any _ _ _ (by assumption) (by decide) (by decide) (by decide) _).mono ?_; rintro _ _ ⟨rfl, m_, rfl⟩) | (go_at_call 15; refine (rd_any _ (by assumption) _).mono ?_; rintro _ _ ⟨rfl, m_, rfl⟩) | (go_at_call 18; refine (f3_any _ (by assumption) _).mono ?_; rintro _ _ ⟨rfl, m_, rfl⟩) | (go_at_call 19; refine (rs1_any _ (by assumption) _).mono ?_; rintro _ _ ⟨rfl, m_, rfl⟩) | (go_at_call 20; refine (immI_any _ (by assumption) _).mono ?_; rintro _ _ ⟨rfl, m_, rfl⟩) | (go_at_call 22; refine (rs2_any _ (by assumption) _).mono ?_; rintro _ _ ⟨rfl, m_, rfl⟩) | (go_at_call 25; refine (immS_any _ (by assumption) _).mono ?_; rintro _ _ ⟨rfl, m_, rfl⟩) | (go_at_call 16; refine (immU_any _ (by assumption) _).mono ?_; rintro _ _ ⟨rfl, m_, rfl⟩) | (go_at_call 17; refine (immJ_any _ (by assumption) _).mono ?_; rintro _ _ ⟨rfl, m_, rfl⟩) | (go_at_call 23; refine (immB_any _ (by assumption) _).mono ?_; rintro _ _ ⟨rfl, m_, rfl⟩) | (go_at_call 21; refine (branches_any _).mono ?_; rintro _ _ ⟨rfl, o_, rfl⟩) | (go_at_call 24; refine (loads_any _).mono ?_; rintro _ _ ⟨rfl, o_, rfl⟩))
  go_at_call 30
  refine (ag_of (float_any _ (by assumption) _)).mono ?_
  rintro _ w30 ⟨y, hy, rfl, hq⟩
  have hgn : GN w w30 := GN.trans (by (repeat (first | with_reducible exact GN.refl _ | with_reducible assumption | (with_reducible refine GN.set ?_ ?_ _ _; rotate_left; · first | assumption | (simp; done)) | with_reducible refine GN.alloc ?_ _ | with_reducible refine GN.drewN ?_ _))) hq
  have hz := hp_gn hq (g := w.heap.size) (o := .cells #[.int .i64 0, .int .i64 0, .int .i64 0, .int .i64 0, .int .i64 0, .int .i64 0, .int .i64 0, .int .i64 0, .int .i64 0, .bool false, .bool false, .bool false] 25) (by (repeat (first | with_reducible assumption | with_reducible apply hp_row12 | (with_reducible refine hp_last ?_; · simp) | (with_reducible refine hp_set ?_ ?_; · first | assumption | (simp; done)) | with_reducible refine hp_drewN ?_ | with_reducible refine hp_alloc ?_)))
  have hz4 := hp_gn hq (g := w.heap.size + 1) (o := .cells #[.int .i64 0, .int .i64 0, .int .i64 0, .int .i64 0, .int .i64 0, .int .i64 0, .int .i64 0, .int .i64 0, .int .i64 0, .bool false, .bool false, .bool false] 25) (by (repeat (first | with_reducible assumption | with_reducible apply hp_row12 | (with_reducible refine hp_last ?_; · simp) | (with_reducible refine hp_set ?_ ?_; · first | assumption | (simp; done)) | with_reducible refine hp_drewN ?_ | with_reducible refine hp_alloc ?_)))
  obtain ⟨⟨p0, q0⟩, ⟨p1, q1⟩, ⟨p2, q2⟩, ⟨p3, q3⟩, ⟨p4, q4⟩, ⟨p5, q5⟩, ⟨p6, q6⟩, ⟨p7, q7⟩, ⟨p8, q8⟩, ⟨p9, q9⟩, ⟨p10, q10⟩, ⟨p11, q11⟩⟩ := c12 hz
  obtain ⟨⟨p40, q40⟩, ⟨p41, q41⟩, ⟨p42, q42⟩, ⟨p43, q43⟩, ⟨p44, q44⟩, ⟨p45, q45⟩, ⟨p46, q46⟩, ⟨p47, q47⟩, ⟨p48, q48⟩, ⟨p49, q49⟩, ⟨p410, q410⟩, ⟨p411, q411⟩⟩ := c12 hz4
  have l1 := lt_of_heap' hz
  have l2 := lt_of_heap' hz4
  have m1 : w30.heap.size ≠ w.heap.size := by omega
  have m2 : w30.heap.size ≠ w.heap.size + 1 := by omega
  have m3 := m1.symm
  have m4 := m2.symm
  have hwg : w.heap.size ≤ w30.heap.size := by omega
  clear hq
  go_upto_region 40 with fail
  obtain ⟨k, rd3, q1_, q2_, q3_, q4_, q5_, q6_, q7_, u1_, u2_, u3_⟩ := y
  have hk : k = 0 ∨ k ≠ 0 := by omega
  rcases hk with rfl | hk
  · have tt := True.intro
    go_wp2_with fail
    refine fin25 2 rfl rfl rfl ⟨_, by (repeat (first | with_reducible assumption | with_reducible apply hp_row12 | (with_reducible refine hp_last ?_; · simp) | (with_reducible refine hp_set ?_ ?_; · first | assumption | (simp; done)) | with_reducible refine hp_drewN ?_ | with_reducible refine hp_alloc ?_)), rfl, ?_, ?_⟩
    · rw [unhide hl]; unfold fallN; rw [show floatN b = _ from unhide hy, if_pos rfl]; rfl
    · (repeat (first | with_reducible exact GN.refl _ | with_reducible assumption | (with_reducible refine GN.set ?_ ?_ _ _; rotate_left; · first | assumption | (simp; done)) | with_reducible refine GN.alloc ?_ _ | with_reducible refine GN.drewN ?_ _))
  · have nk := ne_t hk
    go_wp2_with fail
    refine fin25 2 rfl rfl rfl ⟨_, by (repeat (first | with_reducible assumption | with_reducible apply hp_row12 | (with_reducible refine hp_last ?_; · simp) | (with_reducible refine hp_set ?_ ?_; · first | assumption | (simp; done)) | with_reducible refine hp_drewN ?_ | with_reducible refine hp_alloc ?_)), rfl, ?_, ?_⟩
    · rw [unhide hl]; unfold fallN; rw [show floatN b = _ from unhide hy, if_neg hk]; rfl
    · (repeat (first | with_reducible exact GN.refl _ | with_reducible assumption | (with_reducible refine GN.set ?_ ?_ _ _; rotate_left; · first | assumption | (simp; done)) | with_reducible refine GN.alloc ?_ _ | with_reducible refine GN.drewN ?_ _))
set_option maxRecDepth 100000 in
set_option maxHeartbeats 4000000 in
theorem dec_9 (b : Nat) (hb : b < 4294967296) (rd r1 r2 : Nat) (hop : fd b 0 7 = 35) (hf : fd b 12 3 = 0) (hrd : fd b 7 5 = rd) (hr1 : fd b 15 5 = r1) (hr2 : fd b 20 5 = r2) (w : World) : Calls Try.prog 10 #[.int .u32 b] w fun r w' => r = .returned (insV (decK b 35 0 rd r1 r2)) ∧ GN w w'  := by
  have hf' := hide hf
  have hrd' := hide hrd
  have hr1' := hide hr1
  have hr2' := hide hr2
  have tt := True.intro
  have hl := hide (show decK b 35 0 rd r1 r2 = (⟨12, 0, r1, r2, 0, 0, 0, 1, immS b, false, false, false⟩ : Ins) from by simp [decK])
  go_enter Try.func10, Try.ntmps10
  go_wp2_with (first | (go_at_call 14; refine (bits_any _ _ _ (by assumption) (by decide) (by decide) (by decide) _).mono ?_; rintro _ _ ⟨rfl, m_, rfl⟩) | (go_at_call 15; refine (rd_any _ (by assumption) _).mono ?_; rintro _ _ ⟨rfl, m_, rfl⟩) | (go_at_call 18; refine (f3_any _ (by assumption) _).mono ?_; rintro _ _ ⟨rfl, m_, rfl⟩) | (go_at_call 19; refine (rs1_any _ (by assumption) _).mono ?_; rintro _ _ ⟨rfl, m_, rfl⟩) | (go_at_call 20; refine (immI_any _ (by assumption) _).mono ?_; rintro _ _ ⟨rfl, m_, rfl⟩) | (go_at_call 22; refine (rs2_any _ (by assumption) _).mono ?_; rintro _ _ ⟨rfl, m_, rfl⟩) | (go_at_call 25; refine (immS_any _ (by assumption) _).mono ?_; rintro _ _ ⟨rfl, m_, rfl⟩) | (go_at_call 16; refine (immU_any _ (by assumption) _).mono ?_; rintro _ _ ⟨rfl, m_, rfl⟩) | (go_at_call 17; refine (immJ_any _ (by assumption) _).mono ?_; rintro _ _ ⟨rfl, m_, rfl⟩) | (go_at_call 23; refine (immB_any _ (by assumption) _).mono ?_; rintro _ _ ⟨rfl, m_, rfl⟩) | (go_at_call 21; refine (branches_any _).mono ?_; rintro _ _ ⟨rfl, o_, rfl⟩) | (go_at_call 24; refine (loads_any _).mono ?_; rintro _ _ ⟨rfl, o_, rfl⟩))
  refine fin25 2 rfl rfl rfl ⟨_, by (repeat (first | with_reducible assumption | with_reducible apply hp_row12 | (with_reducible refine hp_last ?_; · simp) | (with_reducible refine hp_set ?_ ?_; · first | assumption | (simp; done)) | with_reducible refine hp_drewN ?_ | with_reducible refine hp_alloc ?_)), rfl, ?_, ?_⟩
  · rw [unhide hl]; rfl
  · (repeat (first | with_reducible exact GN.refl _ | with_reducible assumption | (with_reducible refine GN.set ?_ ?_ _ _; rotate_left; · first | assumption | (simp; done)) | with_reducible refine GN.alloc ?_ _ | with_reducible refine GN.drewN ?_ _))
set_option maxRecDepth 100000 in
set_option maxHeartbeats 4000000 in
theorem dec_13 (b : Nat) (hb : b < 4294967296) (f : Nat) (rd r1 r2 : Nat) (hop : fd b 0 7 = 35) (hf : fd b 12 3 = f) (hrd : fd b 7 5 = rd) (hr1 : fd b 15 5 = r1) (hr2 : fd b 20 5 = r2) (f4 : ¬ f < 4) (w : World) : Calls Try.prog 10 #[.int .u32 b] w fun r w' => r = .returned (insV (decK b 35 f rd r1 r2)) ∧ GN w w'  := by
  have hf8 : f < 8 := hf ▸ fd_lt b 12 3
  have hf' := hide hf
  have hrd' := hide hrd
  have hr1' := hide hr1
  have hr2' := hide hr2
  have z4 : ¬ (f : Int) < 4 := by omega
  have hl := hide (show decK b 35 f rd r1 r2 = fallN (floatN b) from by simp [decK, f4])
  go_enter Try.func10, Try.ntmps10
  go_upto_region 40 with (first | (go_at_call 14; refine (bits_any _ _ _ (by assumption) (by decide) (by decide) (by decide) _).mono ?_; rintro _ _ ⟨rfl, m_, rfl⟩) | (go_at_call 15; refine (rd_any _ (by assumption) _).mono ?_; rintro _ _ ⟨rfl, m_, rfl⟩) | (go_at_call 18; refine (f3_any _ (by assumption) _).mono ?_; rintro _ _ ⟨rfl, m_, rfl⟩) | (go_at_call 19; refine (rs1_any _ (by assumption) _).mono ?_; rintro _ _ ⟨rfl, m_, rfl⟩) | (go_at_call 20; refine (immI_any _ (by assumption) _).mono ?_; rintro _ _ ⟨rfl, m_, rfl⟩) | (go_at_call 22; refine (rs2_any _ (by assumption) _).mono ?_; rintro _ _ ⟨rfl, m_, rfl⟩) | (go_at_call 25; refine (immS_any _ (by assumption) _).mono ?_; rintro _ _ ⟨rfl, m_, rfl⟩) | (go_at_call 16; refine (immU_any _ (by assumption) _).mono ?_; rintro _ _ ⟨rfl, m_, rfl⟩) | (go_at_call 17; refine (immJ_any _ (by assumption) _).mono ?_; rintro _ _ ⟨rfl, m_, rfl⟩) | (go_at_call 23; refine (immB_any _ (by assumption) _).mono ?_; rintro _ _ ⟨rfl, m_, rfl⟩) | (go_at_call 21; refine (branches_any _).mono ?_; rintro _ _ ⟨rfl, o_, rfl⟩) | (go_at_call 24; refine (loads_any _).mono ?_; rintro _ _ ⟨rfl, o_, rfl⟩))
  go_at_call 30
  refine (ag_of (float_any _ (by assumption) _)).mono ?_
  rintro _ w30 ⟨y, hy, rfl, hq⟩
  have hgn : GN w w30 := GN.trans (by (repeat (first | with_reducible exact GN.refl _ | with_reducible assumption | (with_reducible refine GN.set ?_ ?_ _ _; rotate_left; · first | assumption | (simp; done)) | with_reducible refine GN.alloc ?_ _ | with_reducible refine GN.drewN ?_ _))) hq
  have hz := hp_gn hq (g := w.heap.size) (o := .cells #[.int .i64 0, .int .i64 0, .int .i64 0, .int .i64 0, .int .i64 0, .int .i64 0, .int .i64 0, .int .i64 0, .int .i64 0, .bool false, .bool false, .bool false] 25) (by (repeat (first | with_reducible assumption | with_reducible apply hp_row12 | (with_reducible refine hp_last ?_; · simp) | (with_reducible refine hp_set ?_ ?_; · first | assumption | (simp; done)) | with_reducible refine hp_drewN ?_ | with_reducible refine hp_alloc ?_)))
  have hz4 := hp_gn hq (g := w.heap.size + 1) (o := .cells #[.int .i64 0, .int .i64 0, .int .i64 0, .int .i64 0, .int .i64 0, .int .i64 0, .int .i64 0, .int .i64 0, .int .i64 0, .bool false, .bool false, .bool false] 25) (by (repeat (first | with_reducible assumption | with_reducible apply hp_row12 | (with_reducible refine hp_last ?_; · simp) | (with_reducible refine hp_set ?_ ?_; · first | assumption | (simp; done)) | with_reducible refine hp_drewN ?_ | with_reducible refine hp_alloc ?_)))
  obtain ⟨⟨p0, q0⟩, ⟨p1, q1⟩, ⟨p2, q2⟩, ⟨p3, q3⟩, ⟨p4, q4⟩, ⟨p5, q5⟩, ⟨p6, q6⟩, ⟨p7, q7⟩, ⟨p8, q8⟩, ⟨p9, q9⟩, ⟨p10, q10⟩, ⟨p11, q11⟩⟩ := c12 hz
  obtain ⟨⟨p40, q40⟩, ⟨p41, q41⟩, ⟨p42, q42⟩, ⟨p43, q43⟩, ⟨p44, q44⟩, ⟨p45, q45⟩, ⟨p46, q46⟩, ⟨p47, q47⟩, ⟨p48, q48⟩, ⟨p49, q49⟩, ⟨p410, q410⟩, ⟨p411, q411⟩⟩ := c12 hz4
  have l1 := lt_of_heap' hz
  have l2 := lt_of_heap' hz4
  have m1 : w30.heap.size ≠ w.heap.size := by omega
  have m2 : w30.heap.size ≠ w.heap.size + 1 := by omega
  have m3 := m1.symm
  have m4 := m2.symm
  have hwg : w.heap.size ≤ w30.heap.size := by omega
  clear hq
  go_upto_region 40 with fail
  obtain ⟨k, rd3, q1_, q2_, q3_, q4_, q5_, q6_, q7_, u1_, u2_, u3_⟩ := y
  have hk : k = 0 ∨ k ≠ 0 := by omega
  rcases hk with rfl | hk
  · have tt := True.intro
    go_wp2_with fail
    refine fin25 2 rfl rfl rfl ⟨_, by (repeat (first | with_reducible assumption | with_reducible apply hp_row12 | (with_reducible refine hp_last ?_; · simp) | (with_reducible refine hp_set ?_ ?_; · first | assumption | (simp; done)) | with_reducible refine hp_drewN ?_ | with_reducible refine hp_alloc ?_)), rfl, ?_, ?_⟩
    · rw [unhide hl]; unfold fallN; rw [show floatN b = _ from unhide hy, if_pos rfl]; rfl
    · (repeat (first | with_reducible exact GN.refl _ | with_reducible assumption | (with_reducible refine GN.set ?_ ?_ _ _; rotate_left; · first | assumption | (simp; done)) | with_reducible refine GN.alloc ?_ _ | with_reducible refine GN.drewN ?_ _))
  · have nk := ne_t hk
    go_wp2_with fail
    refine fin25 2 rfl rfl rfl ⟨_, by (repeat (first | with_reducible assumption | with_reducible apply hp_row12 | (with_reducible refine hp_last ?_; · simp) | (with_reducible refine hp_set ?_ ?_; · first | assumption | (simp; done)) | with_reducible refine hp_drewN ?_ | with_reducible refine hp_alloc ?_)), rfl, ?_, ?_⟩
    · rw [unhide hl]; unfold fallN; rw [show floatN b = _ from unhide hy, if_neg hk]; rfl
    · (repeat (first | with_reducible exact GN.refl _ | with_reducible assumption | (with_reducible refine GN.set ?_ ?_ _ _; rotate_left; · first | assumption | (simp; done)) | with_reducible refine GN.alloc ?_ _ | with_reducible refine GN.drewN ?_ _))
set_option maxRecDepth 100000 in
set_option maxHeartbeats 4000000 in
theorem dec_17 (b : Nat) (hb : b < 4294967296) (f : Nat) (rd r1 r2 : Nat) (hop : fd b 0 7 = 59) (hf : fd b 12 3 = f) (hrd : fd b 7 5 = rd) (hr1 : fd b 15 5 = r1) (hr2 : fd b 20 5 = r2) (w : World) : Calls Try.prog 10 #[.int .u32 b] w fun r w' => r = .returned (insV (decK b 59 f rd r1 r2)) ∧ GN w w'  := by
  have hf8 : f < 8 := hf ▸ fd_lt b 12 3
  have hf' := hide hf
  have hrd' := hide hrd
  have hr1' := hide hr1
  have hr2' := hide hr2
  have tt := True.intro
  have hl := hide (show decK b 59 f rd r1 r2 = regK f (fd b 25 7) rd r1 r2 true from by simp [decK])
  go_enter Try.func10, Try.ntmps10
  go_wp2_with (first | (go_at_call 14; refine (bits_any _ _ _ (by assumption) (by decide) (by decide) (by decide) _).mono ?_; rintro _ _ ⟨rfl, m_, rfl⟩) | (go_at_call 15; refine (rd_any _ (by assumption) _).mono ?_; rintro _ _ ⟨rfl, m_, rfl⟩) | (go_at_call 18; refine (f3_any _ (by assumption) _).mono ?_; rintro _ _ ⟨rfl, m_, rfl⟩) | (go_at_call 19; refine (rs1_any _ (by assumption) _).mono ?_; rintro _ _ ⟨rfl, m_, rfl⟩) | (go_at_call 20; refine (immI_any _ (by assumption) _).mono ?_; rintro _ _ ⟨rfl, m_, rfl⟩) | (go_at_call 22; refine (rs2_any _ (by assumption) _).mono ?_; rintro _ _ ⟨rfl, m_, rfl⟩) | (go_at_call 25; refine (immS_any _ (by assumption) _).mono ?_; rintro _ _ ⟨rfl, m_, rfl⟩) | (go_at_call 16; refine (immU_any _ (by assumption) _).mono ?_; rintro _ _ ⟨rfl, m_, rfl⟩) | (go_at_call 17; refine (immJ_any _ (by assumption) _).mono ?_; rintro _ _ ⟨rfl, m_, rfl⟩) | (go_at_call 23; refine (immB_any _ (by assumption) _).mono ?_; rintro _ _ ⟨rfl, m_, rfl⟩) | (go_at_call 21; refine (branches_any _).mono ?_; rintro _ _ ⟨rfl, o_, rfl⟩) | (go_at_call 24; refine (loads_any _).mono ?_; rintro _ _ ⟨rfl, o_, rfl⟩) | (go_at_call 27; refine (ag_of (registers_any _ (by assumption) _ _)).mono ?_; rintro _ w27 ⟨y, hy, rfl, hq⟩; have hgn : GN w w27 := GN.trans (by (repeat (first | with_reducible exact GN.refl _ | with_reducible assumption | (with_reducible refine GN.set ?_ ?_ _ _; rotate_left; · first | assumption | (simp; done)) | with_reducible refine GN.alloc ?_ _ | with_reducible refine GN.drewN ?_ _))) hq; have hz := hp_gn hq (g := w.heap.size) (o := .cells #[.int .i64 0, .int .i64 0, .int .i64 0, .int .i64 0, .int .i64 0, .int .i64 0, .int .i64 0, .int .i64 0, .int .i64 0, .bool false, .bool false, .bool false] 25) (by (repeat (first | with_reducible assumption | with_reducible apply hp_row12 | (with_reducible refine hp_last ?_; · simp) | (with_reducible refine hp_set ?_ ?_; · first | assumption | (simp; done)) | with_reducible refine hp_drewN ?_ | with_reducible refine hp_alloc ?_))); obtain ⟨⟨p0, q0⟩, ⟨p1, q1⟩, ⟨p2, q2⟩, ⟨p3, q3⟩, ⟨p4, q4⟩, ⟨p5, q5⟩, ⟨p6, q6⟩, ⟨p7, q7⟩, ⟨p8, q8⟩, ⟨p9, q9⟩, ⟨p10, q10⟩, ⟨p11, q11⟩⟩ := c12 hz; clear hq))
  refine fin25 2 rfl rfl rfl ⟨_, by (repeat (first | with_reducible assumption | with_reducible apply hp_row12 | (with_reducible refine hp_last ?_; · simp) | (with_reducible refine hp_set ?_ ?_; · first | assumption | (simp; done)) | with_reducible refine hp_drewN ?_ | with_reducible refine hp_alloc ?_)), rfl, ?_, ?_⟩
  · rw [unhide hl, ← unhide hf', ← unhide hrd', ← unhide hr1', ← unhide hr2', unhide hy]; rfl
  · (repeat (first | with_reducible exact GN.refl _ | with_reducible assumption | (with_reducible refine GN.set ?_ ?_ _ _; rotate_left; · first | assumption | (simp; done)) | with_reducible refine GN.alloc ?_ _ | with_reducible refine GN.drewN ?_ _))
set_option maxRecDepth 100000 in
set_option maxHeartbeats 4000000 in
theorem dec_21 (b : Nat) (hb : b < 4294967296) (f : Nat) (rd r1 r2 : Nat) (hop : fd b 0 7 = 47) (hf : fd b 12 3 = f) (hrd : fd b 7 5 = rd) (hr1 : fd b 15 5 = r1) (hr2 : fd b 20 5 = r2) (w : World) : Calls Try.prog 10 #[.int .u32 b] w fun r w' => r = .returned (insV (decK b 47 f rd r1 r2)) ∧ GN w w'  := by
  have hf8 : f < 8 := hf ▸ fd_lt b 12 3
  have hf' := hide hf
  have hrd' := hide hrd
  have hr1' := hide hr1
  have hr2' := hide hr2
  have tt := True.intro
  have hl := hide (show decK b 47 f rd r1 r2 = atomI f (fd b 27 5) rd r1 r2 from by simp [decK])
  go_enter Try.func10, Try.ntmps10
  go_wp2_with (first | (go_at_call 14; refine (bits_any _ _ _ (by assumption) (by decide) (by decide) (by decide) _).mono ?_; rintro _ _ ⟨rfl, m_, rfl⟩) | (go_at_call 15; refine (rd_any _ (by assumption) _).mono ?_; rintro _ _ ⟨rfl, m_, rfl⟩) | (go_at_call 18; refine (f3_any _ (by assumption) _).mono ?_; rintro _ _ ⟨rfl, m_, rfl⟩) | (go_at_call 19; refine (rs1_any _ (by assumption) _).mono ?_; rintro _ _ ⟨rfl, m_, rfl⟩) | (go_at_call 20; refine (immI_any _ (by assumption) _).mono ?_; rintro _ _ ⟨rfl, m_, rfl⟩) | (go_at_call 22; refine (rs2_any _ (by assumption) _).mono ?_; rintro _ _ ⟨rfl, m_, rfl⟩) | (go_at_call 25; refine (immS_any _ (by assumption) _).mono ?_; rintro _ _ ⟨rfl, m_, rfl⟩) | (go_at_call 16; refine (immU_any _ (by assumption) _).mono ?_; rintro _ _ ⟨rfl, m_, rfl⟩) | (go_at_call 17; refine (immJ_any _ (by assumption) _).mono ?_; rintro _ _ ⟨rfl, m_, rfl⟩) | (go_at_call 23; refine (immB_any _ (by assumption) _).mono ?_; rintro _ _ ⟨rfl, m_, rfl⟩) | (go_at_call 21; refine (branches_any _).mono ?_; rintro _ _ ⟨rfl, o_, rfl⟩) | (go_at_call 24; refine (loads_any _).mono ?_; rintro _ _ ⟨rfl, o_, rfl⟩) | (go_at_call 29; refine (ag_of (atomic_any _ (by assumption) _)).mono ?_; rintro _ w29 ⟨y, hy, rfl, hq⟩; have hgn : GN w w29 := GN.trans (by (repeat (first | with_reducible exact GN.refl _ | with_reducible assumption | (with_reducible refine GN.set ?_ ?_ _ _; rotate_left; · first | assumption | (simp; done)) | with_reducible refine GN.alloc ?_ _ | with_reducible refine GN.drewN ?_ _))) hq; have hz := hp_gn hq (g := w.heap.size) (o := .cells #[.int .i64 0, .int .i64 0, .int .i64 0, .int .i64 0, .int .i64 0, .int .i64 0, .int .i64 0, .int .i64 0, .int .i64 0, .bool false, .bool false, .bool false] 25) (by (repeat (first | with_reducible assumption | with_reducible apply hp_row12 | (with_reducible refine hp_last ?_; · simp) | (with_reducible refine hp_set ?_ ?_; · first | assumption | (simp; done)) | with_reducible refine hp_drewN ?_ | with_reducible refine hp_alloc ?_))); obtain ⟨⟨p0, q0⟩, ⟨p1, q1⟩, ⟨p2, q2⟩, ⟨p3, q3⟩, ⟨p4, q4⟩, ⟨p5, q5⟩, ⟨p6, q6⟩, ⟨p7, q7⟩, ⟨p8, q8⟩, ⟨p9, q9⟩, ⟨p10, q10⟩, ⟨p11, q11⟩⟩ := c12 hz; clear hq))
  refine fin25 2 rfl rfl rfl ⟨_, by (repeat (first | with_reducible assumption | with_reducible apply hp_row12 | (with_reducible refine hp_last ?_; · simp) | (with_reducible refine hp_set ?_ ?_; · first | assumption | (simp; done)) | with_reducible refine hp_drewN ?_ | with_reducible refine hp_alloc ?_)), rfl, ?_, ?_⟩
  · rw [unhide hl, ← unhide hf', ← unhide hrd', ← unhide hr1', ← unhide hr2', unhide hy]; rfl
  · (repeat (first | with_reducible exact GN.refl _ | with_reducible assumption | (with_reducible refine GN.set ?_ ?_ _ _; rotate_left; · first | assumption | (simp; done)) | with_reducible refine GN.alloc ?_ _ | with_reducible refine GN.drewN ?_ _))
end Go.Proofs.Ytopbdiekfhikmaa
