/- Layer 3: system, atomics. -/
import Derived.Test.YtopbdiekfhikmaaD4
namespace Go.Proofs.Ytopbdiekfhikmaa
open Go.RowKit
def sysK (b f g rd r1 r2 c : Nat) : Ins :=
  if f = 4 then zero
  else if 4 < f then ⟨((30 + f : Nat) : Int), rd, 0, 0, 0, 0, c, 0, r1, true, false, false⟩
  else if 0 < f then ⟨((34 + f : Nat) : Int), rd, r1, 0, 0, 0, c, 0, 0, false, false, false⟩
  else if b = 115 then (⟨33, 0, 0, 0, 0, 0, 0, 0, 0, false, false, false⟩ : Ins)
  else if b = 1048691 then (⟨34, 0, 0, 0, 0, 0, 0, 0, 0, false, false, false⟩ : Ins)
  else if b = 270532723 then (⟨50, 0, 0, 0, 0, 0, 0, 0, 0, false, false, false⟩ : Ins)
  else if b = 807403635 then (⟨49, 0, 0, 0, 0, 0, 0, 0, 0, false, false, false⟩ : Ins)
  else if b = 273678451 then (⟨51, 0, 0, 0, 0, 0, 0, 0, 0, false, false, false⟩ : Ins)
  else if g = 9 ∧ rd = 0 then ⟨52, 0, r1, r2, 0, 0, 0, 0, 0, false, false, false⟩
  else zero
def atomI (f h rd r1 r2 : Nat) : Ins :=
  if (f ≠ 2 ∧ f ≠ 3) ∨ atomK h = 0 ∨ (atomK h = 38 ∧ r2 ≠ 0) then zero else ⟨atomK h, rd, r1, r2, 0, 0, 0, ((2 ^ f : Nat) : Int), 0, false, false, false⟩
set_option maxRecDepth 100000 in
set_option maxHeartbeats 4000000 in
theorem system_any (b : Nat) (hb : b < 4294967296) (w : World) : Calls Try.prog 28 #[.int .u32 b] w fun r w' => r = .returned (insV (sysK b (fd b 12 3) (fd b 25 7) (fd b 7 5) (fd b 15 5) (fd b 20 5) (fd b 20 12))) ∧ GN w w' := by
  obtain ⟨f, hf⟩ : ∃ f, fd b 12 3 = f := ⟨_, rfl⟩
  obtain ⟨g, hg⟩ : ∃ g, fd b 25 7 = g := ⟨_, rfl⟩
  obtain ⟨rd, hrd⟩ : ∃ g, fd b 7 5 = g := ⟨_, rfl⟩
  obtain ⟨r1, hr1⟩ : ∃ g, fd b 15 5 = g := ⟨_, rfl⟩
  obtain ⟨r2, hr2⟩ : ∃ g, fd b 20 5 = g := ⟨_, rfl⟩
  have hf8 : f < 8 := hf ▸ fd_lt b 12 3
  obtain ⟨c, hc⟩ : ∃ g, fd b 20 12 = g := ⟨_, rfl⟩
  rw [hf, hg, hrd, hr1, hr2, hc]
  go_enter Try.func28, Try.ntmps28
  go_upto_region 2 with (first | (go_at_call 14; refine (bits_any _ _ _ (by assumption) (by decide) (by decide) (by decide) _).mono ?_; rintro _ _ ⟨rfl, m_, rfl⟩) | (go_at_call 15; refine (rd_any _ (by assumption) _).mono ?_; rintro _ _ ⟨rfl, m_, rfl⟩) | (go_at_call 18; refine (f3_any _ (by assumption) _).mono ?_; rintro _ _ ⟨rfl, m_, rfl⟩) | (go_at_call 19; refine (rs1_any _ (by assumption) _).mono ?_; rintro _ _ ⟨rfl, m_, rfl⟩) | (go_at_call 22; refine (rs2_any _ (by assumption) _).mono ?_; rintro _ _ ⟨rfl, m_, rfl⟩) | (go_at_call 36; refine (f7_any _ (by assumption) _).mono ?_; rintro _ _ ⟨rfl, m_, rfl⟩))
  have h8 := lt8 hf8
  clear hf8
  rcases h8 with rfl | rfl | rfl | rfl | rfl | rfl | rfl | rfl
  · have hb5 : b = 115 ∨ b = 1048691 ∨ b = 270532723 ∨ b = 807403635 ∨ b = 273678451 ∨ (b ≠ 115 ∧ b ≠ 1048691 ∧ b ≠ 270532723 ∧ b ≠ 807403635 ∧ b ≠ 273678451) := by omega
    rcases hb5 with rfl | rfl | rfl | rfl | rfl | ⟨q0, q1, q2, q3, q4⟩
    · clear hf hg hrd hr1 hr2 hc
      have hl := hide (show sysK 115 0 g rd r1 r2 c = (⟨33, 0, 0, 0, 0, 0, 0, 0, 0, false, false, false⟩ : Ins) from by simp [sysK])
      go_wp2_with (first | (go_at_call 14; refine (bits_any _ _ _ (by assumption) (by decide) (by decide) (by decide) _).mono ?_; rintro _ _ ⟨rfl, m_, rfl⟩) | (go_at_call 15; refine (rd_any _ (by assumption) _).mono ?_; rintro _ _ ⟨rfl, m_, rfl⟩) | (go_at_call 18; refine (f3_any _ (by assumption) _).mono ?_; rintro _ _ ⟨rfl, m_, rfl⟩) | (go_at_call 19; refine (rs1_any _ (by assumption) _).mono ?_; rintro _ _ ⟨rfl, m_, rfl⟩) | (go_at_call 22; refine (rs2_any _ (by assumption) _).mono ?_; rintro _ _ ⟨rfl, m_, rfl⟩) | (go_at_call 36; refine (f7_any _ (by assumption) _).mono ?_; rintro _ _ ⟨rfl, m_, rfl⟩))
      refine fin25 2 rfl rfl rfl ⟨_, by (repeat (first | with_reducible assumption | with_reducible apply hp_row12 | (with_reducible refine hp_last ?_; · simp) | (with_reducible refine hp_set ?_ ?_; · simp) | with_reducible refine hp_drewN ?_ | with_reducible refine hp_alloc ?_)), rfl, ?_, ?_⟩
      · rw [unhide hl]; rfl
      · (repeat (first | with_reducible exact GN.refl _ | with_reducible assumption | (with_reducible refine GN.set ?_ ?_ _ _; rotate_left; · simp) | with_reducible refine GN.alloc ?_ _ | with_reducible refine GN.drewN ?_ _))
    · clear hf hg hrd hr1 hr2 hc
      have hl := hide (show sysK 1048691 0 g rd r1 r2 c = (⟨34, 0, 0, 0, 0, 0, 0, 0, 0, false, false, false⟩ : Ins) from by simp [sysK])
      go_wp2_with (first | (go_at_call 14; refine (bits_any _ _ _ (by assumption) (by decide) (by decide) (by decide) _).mono ?_; rintro _ _ ⟨rfl, m_, rfl⟩) | (go_at_call 15; refine (rd_any _ (by assumption) _).mono ?_; rintro _ _ ⟨rfl, m_, rfl⟩) | (go_at_call 18; refine (f3_any _ (by assumption) _).mono ?_; rintro _ _ ⟨rfl, m_, rfl⟩) | (go_at_call 19; refine (rs1_any _ (by assumption) _).mono ?_; rintro _ _ ⟨rfl, m_, rfl⟩) | (go_at_call 22; refine (rs2_any _ (by assumption) _).mono ?_; rintro _ _ ⟨rfl, m_, rfl⟩) | (go_at_call 36; refine (f7_any _ (by assumption) _).mono ?_; rintro _ _ ⟨rfl, m_, rfl⟩))
      refine fin25 2 rfl rfl rfl ⟨_, by (repeat (first | with_reducible assumption | with_reducible apply hp_row12 | (with_reducible refine hp_last ?_; · simp) | (with_reducible refine hp_set ?_ ?_; · simp) | with_reducible refine hp_drewN ?_ | with_reducible refine hp_alloc ?_)), rfl, ?_, ?_⟩
      · rw [unhide hl]; rfl
      · (repeat (first | with_reducible exact GN.refl _ | with_reducible assumption | (with_reducible refine GN.set ?_ ?_ _ _; rotate_left; · simp) | with_reducible refine GN.alloc ?_ _ | with_reducible refine GN.drewN ?_ _))
    · clear hf hg hrd hr1 hr2 hc
      have hl := hide (show sysK 270532723 0 g rd r1 r2 c = (⟨50, 0, 0, 0, 0, 0, 0, 0, 0, false, false, false⟩ : Ins) from by simp [sysK])
      go_wp2_with (first | (go_at_call 14; refine (bits_any _ _ _ (by assumption) (by decide) (by decide) (by decide) _).mono ?_; rintro _ _ ⟨rfl, m_, rfl⟩) | (go_at_call 15; refine (rd_any _ (by assumption) _).mono ?_; rintro _ _ ⟨rfl, m_, rfl⟩) | (go_at_call 18; refine (f3_any _ (by assumption) _).mono ?_; rintro _ _ ⟨rfl, m_, rfl⟩) | (go_at_call 19; refine (rs1_any _ (by assumption) _).mono ?_; rintro _ _ ⟨rfl, m_, rfl⟩) | (go_at_call 22; refine (rs2_any _ (by assumption) _).mono ?_; rintro _ _ ⟨rfl, m_, rfl⟩) | (go_at_call 36; refine (f7_any _ (by assumption) _).mono ?_; rintro _ _ ⟨rfl, m_, rfl⟩))
      refine fin25 2 rfl rfl rfl ⟨_, by (repeat (first | with_reducible assumption | with_reducible apply hp_row12 | (with_reducible refine hp_last ?_; · simp) | (with_reducible refine hp_set ?_ ?_; · simp) | with_reducible refine hp_drewN ?_ | with_reducible refine hp_alloc ?_)), rfl, ?_, ?_⟩
      · rw [unhide hl]; rfl
      · (repeat (first | with_reducible exact GN.refl _ | with_reducible assumption | (with_reducible refine GN.set ?_ ?_ _ _; rotate_left; · simp) | with_reducible refine GN.alloc ?_ _ | with_reducible refine GN.drewN ?_ _))
    · clear hf hg hrd hr1 hr2 hc
      have hl := hide (show sysK 807403635 0 g rd r1 r2 c = (⟨49, 0, 0, 0, 0, 0, 0, 0, 0, false, false, false⟩ : Ins) from by simp [sysK])
      go_wp2_with (first | (go_at_call 14; refine (bits_any _ _ _ (by assumption) (by decide) (by decide) (by decide) _).mono ?_; rintro _ _ ⟨rfl, m_, rfl⟩) | (go_at_call 15; refine (rd_any _ (by assumption) _).mono ?_; rintro _ _ ⟨rfl, m_, rfl⟩) | (go_at_call 18; refine (f3_any _ (by assumption) _).mono ?_; rintro _ _ ⟨rfl, m_, rfl⟩) | (go_at_call 19; refine (rs1_any _ (by assumption) _).mono ?_; rintro _ _ ⟨rfl, m_, rfl⟩) | (go_at_call 22; refine (rs2_any _ (by assumption) _).mono ?_; rintro _ _ ⟨rfl, m_, rfl⟩) | (go_at_call 36; refine (f7_any _ (by assumption) _).mono ?_; rintro _ _ ⟨rfl, m_, rfl⟩))
      refine fin25 2 rfl rfl rfl ⟨_, by (repeat (first | with_reducible assumption | with_reducible apply hp_row12 | (with_reducible refine hp_last ?_; · simp) | (with_reducible refine hp_set ?_ ?_; · simp) | with_reducible refine hp_drewN ?_ | with_reducible refine hp_alloc ?_)), rfl, ?_, ?_⟩
      · rw [unhide hl]; rfl
      · (repeat (first | with_reducible exact GN.refl _ | with_reducible assumption | (with_reducible refine GN.set ?_ ?_ _ _; rotate_left; · simp) | with_reducible refine GN.alloc ?_ _ | with_reducible refine GN.drewN ?_ _))
    · clear hf hg hrd hr1 hr2 hc
      have hl := hide (show sysK 273678451 0 g rd r1 r2 c = (⟨51, 0, 0, 0, 0, 0, 0, 0, 0, false, false, false⟩ : Ins) from by simp [sysK])
      go_wp2_with (first | (go_at_call 14; refine (bits_any _ _ _ (by assumption) (by decide) (by decide) (by decide) _).mono ?_; rintro _ _ ⟨rfl, m_, rfl⟩) | (go_at_call 15; refine (rd_any _ (by assumption) _).mono ?_; rintro _ _ ⟨rfl, m_, rfl⟩) | (go_at_call 18; refine (f3_any _ (by assumption) _).mono ?_; rintro _ _ ⟨rfl, m_, rfl⟩) | (go_at_call 19; refine (rs1_any _ (by assumption) _).mono ?_; rintro _ _ ⟨rfl, m_, rfl⟩) | (go_at_call 22; refine (rs2_any _ (by assumption) _).mono ?_; rintro _ _ ⟨rfl, m_, rfl⟩) | (go_at_call 36; refine (f7_any _ (by assumption) _).mono ?_; rintro _ _ ⟨rfl, m_, rfl⟩))
      refine fin25 2 rfl rfl rfl ⟨_, by (repeat (first | with_reducible assumption | with_reducible apply hp_row12 | (with_reducible refine hp_last ?_; · simp) | (with_reducible refine hp_set ?_ ?_; · simp) | with_reducible refine hp_drewN ?_ | with_reducible refine hp_alloc ?_)), rfl, ?_, ?_⟩
      · rw [unhide hl]; rfl
      · (repeat (first | with_reducible exact GN.refl _ | with_reducible assumption | (with_reducible refine GN.set ?_ ?_ _ _; rotate_left; · simp) | with_reducible refine GN.alloc ?_ _ | with_reducible refine GN.drewN ?_ _))
    · have qq : (g = 9 ∧ rd = 0) ∨ (g = 9 ∧ rd ≠ 0) ∨ g ≠ 9 := by omega
      rcases qq with ⟨rfl, rfl⟩ | ⟨rfl, q6⟩ | q6
      · have nb0 := ne_b (show ((b : Nat) : Int) ≠ 115 by omega)
        have nb1 := ne_b (show ((b : Nat) : Int) ≠ 1048691 by omega)
        have nb2 := ne_b (show ((b : Nat) : Int) ≠ 270532723 by omega)
        have nb3 := ne_b (show ((b : Nat) : Int) ≠ 807403635 by omega)
        have nb4 := ne_b (show ((b : Nat) : Int) ≠ 273678451 by omega)
        have hl := hide (show sysK b 0 9 0 r1 r2 c = (⟨52, 0, r1, r2, 0, 0, 0, 0, 0, false, false, false⟩ : Ins) from by simp [sysK, q0, q1, q2, q3, q4])
        go_wp2_with (first | (go_at_call 14; refine (bits_any _ _ _ (by assumption) (by decide) (by decide) (by decide) _).mono ?_; rintro _ _ ⟨rfl, m_, rfl⟩) | (go_at_call 15; refine (rd_any _ (by assumption) _).mono ?_; rintro _ _ ⟨rfl, m_, rfl⟩) | (go_at_call 18; refine (f3_any _ (by assumption) _).mono ?_; rintro _ _ ⟨rfl, m_, rfl⟩) | (go_at_call 19; refine (rs1_any _ (by assumption) _).mono ?_; rintro _ _ ⟨rfl, m_, rfl⟩) | (go_at_call 22; refine (rs2_any _ (by assumption) _).mono ?_; rintro _ _ ⟨rfl, m_, rfl⟩) | (go_at_call 36; refine (f7_any _ (by assumption) _).mono ?_; rintro _ _ ⟨rfl, m_, rfl⟩))
        refine fin25 2 rfl rfl rfl ⟨_, by (repeat (first | with_reducible assumption | with_reducible apply hp_row12 | (with_reducible refine hp_last ?_; · simp) | (with_reducible refine hp_set ?_ ?_; · simp) | with_reducible refine hp_drewN ?_ | with_reducible refine hp_alloc ?_)), rfl, ?_, ?_⟩
        · rw [unhide hl]; rfl
        · (repeat (first | with_reducible exact GN.refl _ | with_reducible assumption | (with_reducible refine GN.set ?_ ?_ _ _; rotate_left; · simp) | with_reducible refine GN.alloc ?_ _ | with_reducible refine GN.drewN ?_ _))
      · have nb0 := ne_b (show ((b : Nat) : Int) ≠ 115 by omega)
        have nb1 := ne_b (show ((b : Nat) : Int) ≠ 1048691 by omega)
        have nb2 := ne_b (show ((b : Nat) : Int) ≠ 270532723 by omega)
        have nb3 := ne_b (show ((b : Nat) : Int) ≠ 807403635 by omega)
        have nb4 := ne_b (show ((b : Nat) : Int) ≠ 273678451 by omega)
        have n0 := ne_b (show ((rd : Nat) : Int) ≠ 0 by omega)
        have hl := hide (show sysK b 0 9 rd r1 r2 c = zero from by simp [sysK, q0, q1, q2, q3, q4, q6])
        go_wp2_with (first | (go_at_call 14; refine (bits_any _ _ _ (by assumption) (by decide) (by decide) (by decide) _).mono ?_; rintro _ _ ⟨rfl, m_, rfl⟩) | (go_at_call 15; refine (rd_any _ (by assumption) _).mono ?_; rintro _ _ ⟨rfl, m_, rfl⟩) | (go_at_call 18; refine (f3_any _ (by assumption) _).mono ?_; rintro _ _ ⟨rfl, m_, rfl⟩) | (go_at_call 19; refine (rs1_any _ (by assumption) _).mono ?_; rintro _ _ ⟨rfl, m_, rfl⟩) | (go_at_call 22; refine (rs2_any _ (by assumption) _).mono ?_; rintro _ _ ⟨rfl, m_, rfl⟩) | (go_at_call 36; refine (f7_any _ (by assumption) _).mono ?_; rintro _ _ ⟨rfl, m_, rfl⟩))
        refine fin25 2 rfl rfl rfl ⟨_, by (repeat (first | with_reducible assumption | with_reducible apply hp_row12 | (with_reducible refine hp_last ?_; · simp) | (with_reducible refine hp_set ?_ ?_; · simp) | with_reducible refine hp_drewN ?_ | with_reducible refine hp_alloc ?_)), rfl, ?_, ?_⟩
        · rw [unhide hl]; rfl
        · (repeat (first | with_reducible exact GN.refl _ | with_reducible assumption | (with_reducible refine GN.set ?_ ?_ _ _; rotate_left; · simp) | with_reducible refine GN.alloc ?_ _ | with_reducible refine GN.drewN ?_ _))
      · have nb0 := ne_b (show ((b : Nat) : Int) ≠ 115 by omega)
        have nb1 := ne_b (show ((b : Nat) : Int) ≠ 1048691 by omega)
        have nb2 := ne_b (show ((b : Nat) : Int) ≠ 270532723 by omega)
        have nb3 := ne_b (show ((b : Nat) : Int) ≠ 807403635 by omega)
        have nb4 := ne_b (show ((b : Nat) : Int) ≠ 273678451 by omega)
        have n9 := ne_b (show ((g : Nat) : Int) ≠ 9 by omega)
        have hl := hide (show sysK b 0 g rd r1 r2 c = zero from by simp [sysK, q0, q1, q2, q3, q4, q6])
        go_wp2_with (first | (go_at_call 14; refine (bits_any _ _ _ (by assumption) (by decide) (by decide) (by decide) _).mono ?_; rintro _ _ ⟨rfl, m_, rfl⟩) | (go_at_call 15; refine (rd_any _ (by assumption) _).mono ?_; rintro _ _ ⟨rfl, m_, rfl⟩) | (go_at_call 18; refine (f3_any _ (by assumption) _).mono ?_; rintro _ _ ⟨rfl, m_, rfl⟩) | (go_at_call 19; refine (rs1_any _ (by assumption) _).mono ?_; rintro _ _ ⟨rfl, m_, rfl⟩) | (go_at_call 22; refine (rs2_any _ (by assumption) _).mono ?_; rintro _ _ ⟨rfl, m_, rfl⟩) | (go_at_call 36; refine (f7_any _ (by assumption) _).mono ?_; rintro _ _ ⟨rfl, m_, rfl⟩))
        refine fin25 2 rfl rfl rfl ⟨_, by (repeat (first | with_reducible assumption | with_reducible apply hp_row12 | (with_reducible refine hp_last ?_; · simp) | (with_reducible refine hp_set ?_ ?_; · simp) | with_reducible refine hp_drewN ?_ | with_reducible refine hp_alloc ?_)), rfl, ?_, ?_⟩
        · rw [unhide hl]; rfl
        · (repeat (first | with_reducible exact GN.refl _ | with_reducible assumption | (with_reducible refine GN.set ?_ ?_ _ _; rotate_left; · simp) | with_reducible refine GN.alloc ?_ _ | with_reducible refine GN.drewN ?_ _))
  · have tt := True.intro
    have hl := hide (show sysK b 1 g rd r1 r2 c = (⟨35, rd, r1, 0, 0, 0, c, 0, 0, false, false, false⟩ : Ins) from by simp [sysK])
    go_wp2_with (first | (go_at_call 14; refine (bits_any _ _ _ (by assumption) (by decide) (by decide) (by decide) _).mono ?_; rintro _ _ ⟨rfl, m_, rfl⟩) | (go_at_call 15; refine (rd_any _ (by assumption) _).mono ?_; rintro _ _ ⟨rfl, m_, rfl⟩) | (go_at_call 18; refine (f3_any _ (by assumption) _).mono ?_; rintro _ _ ⟨rfl, m_, rfl⟩) | (go_at_call 19; refine (rs1_any _ (by assumption) _).mono ?_; rintro _ _ ⟨rfl, m_, rfl⟩) | (go_at_call 22; refine (rs2_any _ (by assumption) _).mono ?_; rintro _ _ ⟨rfl, m_, rfl⟩) | (go_at_call 36; refine (f7_any _ (by assumption) _).mono ?_; rintro _ _ ⟨rfl, m_, rfl⟩))
    refine fin25 2 rfl rfl rfl ⟨_, by (repeat (first | with_reducible assumption | with_reducible apply hp_row12 | (with_reducible refine hp_last ?_; · simp) | (with_reducible refine hp_set ?_ ?_; · simp) | with_reducible refine hp_drewN ?_ | with_reducible refine hp_alloc ?_)), rfl, ?_, ?_⟩
    · rw [unhide hl]; rfl
    · (repeat (first | with_reducible exact GN.refl _ | with_reducible assumption | (with_reducible refine GN.set ?_ ?_ _ _; rotate_left; · simp) | with_reducible refine GN.alloc ?_ _ | with_reducible refine GN.drewN ?_ _))
  · have tt := True.intro
    have hl := hide (show sysK b 2 g rd r1 r2 c = (⟨36, rd, r1, 0, 0, 0, c, 0, 0, false, false, false⟩ : Ins) from by simp [sysK])
    go_wp2_with (first | (go_at_call 14; refine (bits_any _ _ _ (by assumption) (by decide) (by decide) (by decide) _).mono ?_; rintro _ _ ⟨rfl, m_, rfl⟩) | (go_at_call 15; refine (rd_any _ (by assumption) _).mono ?_; rintro _ _ ⟨rfl, m_, rfl⟩) | (go_at_call 18; refine (f3_any _ (by assumption) _).mono ?_; rintro _ _ ⟨rfl, m_, rfl⟩) | (go_at_call 19; refine (rs1_any _ (by assumption) _).mono ?_; rintro _ _ ⟨rfl, m_, rfl⟩) | (go_at_call 22; refine (rs2_any _ (by assumption) _).mono ?_; rintro _ _ ⟨rfl, m_, rfl⟩) | (go_at_call 36; refine (f7_any _ (by assumption) _).mono ?_; rintro _ _ ⟨rfl, m_, rfl⟩))
    refine fin25 2 rfl rfl rfl ⟨_, by (repeat (first | with_reducible assumption | with_reducible apply hp_row12 | (with_reducible refine hp_last ?_; · simp) | (with_reducible refine hp_set ?_ ?_; · simp) | with_reducible refine hp_drewN ?_ | with_reducible refine hp_alloc ?_)), rfl, ?_, ?_⟩
    · rw [unhide hl]; rfl
    · (repeat (first | with_reducible exact GN.refl _ | with_reducible assumption | (with_reducible refine GN.set ?_ ?_ _ _; rotate_left; · simp) | with_reducible refine GN.alloc ?_ _ | with_reducible refine GN.drewN ?_ _))
  · have tt := True.intro
    have hl := hide (show sysK b 3 g rd r1 r2 c = (⟨37, rd, r1, 0, 0, 0, c, 0, 0, false, false, false⟩ : Ins) from by simp [sysK])
    go_wp2_with (first | (go_at_call 14; refine (bits_any _ _ _ (by assumption) (by decide) (by decide) (by decide) _).mono ?_; rintro _ _ ⟨rfl, m_, rfl⟩) | (go_at_call 15; refine (rd_any _ (by assumption) _).mono ?_; rintro _ _ ⟨rfl, m_, rfl⟩) | (go_at_call 18; refine (f3_any _ (by assumption) _).mono ?_; rintro _ _ ⟨rfl, m_, rfl⟩) | (go_at_call 19; refine (rs1_any _ (by assumption) _).mono ?_; rintro _ _ ⟨rfl, m_, rfl⟩) | (go_at_call 22; refine (rs2_any _ (by assumption) _).mono ?_; rintro _ _ ⟨rfl, m_, rfl⟩) | (go_at_call 36; refine (f7_any _ (by assumption) _).mono ?_; rintro _ _ ⟨rfl, m_, rfl⟩))
    refine fin25 2 rfl rfl rfl ⟨_, by (repeat (first | with_reducible assumption | with_reducible apply hp_row12 | (with_reducible refine hp_last ?_; · simp) | (with_reducible refine hp_set ?_ ?_; · simp) | with_reducible refine hp_drewN ?_ | with_reducible refine hp_alloc ?_)), rfl, ?_, ?_⟩
    · rw [unhide hl]; rfl
    · (repeat (first | with_reducible exact GN.refl _ | with_reducible assumption | (with_reducible refine GN.set ?_ ?_ _ _; rotate_left; · simp) | with_reducible refine GN.alloc ?_ _ | with_reducible refine GN.drewN ?_ _))
  · have tt := True.intro
    have hl := hide (show sysK b 4 g rd r1 r2 c = zero from by simp [sysK])
    go_wp2_with (first | (go_at_call 14; refine (bits_any _ _ _ (by assumption) (by decide) (by decide) (by decide) _).mono ?_; rintro _ _ ⟨rfl, m_, rfl⟩) | (go_at_call 15; refine (rd_any _ (by assumption) _).mono ?_; rintro _ _ ⟨rfl, m_, rfl⟩) | (go_at_call 18; refine (f3_any _ (by assumption) _).mono ?_; rintro _ _ ⟨rfl, m_, rfl⟩) | (go_at_call 19; refine (rs1_any _ (by assumption) _).mono ?_; rintro _ _ ⟨rfl, m_, rfl⟩) | (go_at_call 22; refine (rs2_any _ (by assumption) _).mono ?_; rintro _ _ ⟨rfl, m_, rfl⟩) | (go_at_call 36; refine (f7_any _ (by assumption) _).mono ?_; rintro _ _ ⟨rfl, m_, rfl⟩))
    refine fin25 2 rfl rfl rfl ⟨_, by (repeat (first | with_reducible assumption | with_reducible apply hp_row12 | (with_reducible refine hp_last ?_; · simp) | (with_reducible refine hp_set ?_ ?_; · simp) | with_reducible refine hp_drewN ?_ | with_reducible refine hp_alloc ?_)), rfl, ?_, ?_⟩
    · rw [unhide hl]; rfl
    · (repeat (first | with_reducible exact GN.refl _ | with_reducible assumption | (with_reducible refine GN.set ?_ ?_ _ _; rotate_left; · simp) | with_reducible refine GN.alloc ?_ _ | with_reducible refine GN.drewN ?_ _))
  · have tt := True.intro
    have hl := hide (show sysK b 5 g rd r1 r2 c = (⟨35, rd, 0, 0, 0, 0, c, 0, r1, true, false, false⟩ : Ins) from by simp [sysK])
    go_wp2_with (first | (go_at_call 14; refine (bits_any _ _ _ (by assumption) (by decide) (by decide) (by decide) _).mono ?_; rintro _ _ ⟨rfl, m_, rfl⟩) | (go_at_call 15; refine (rd_any _ (by assumption) _).mono ?_; rintro _ _ ⟨rfl, m_, rfl⟩) | (go_at_call 18; refine (f3_any _ (by assumption) _).mono ?_; rintro _ _ ⟨rfl, m_, rfl⟩) | (go_at_call 19; refine (rs1_any _ (by assumption) _).mono ?_; rintro _ _ ⟨rfl, m_, rfl⟩) | (go_at_call 22; refine (rs2_any _ (by assumption) _).mono ?_; rintro _ _ ⟨rfl, m_, rfl⟩) | (go_at_call 36; refine (f7_any _ (by assumption) _).mono ?_; rintro _ _ ⟨rfl, m_, rfl⟩))
    refine fin25 2 rfl rfl rfl ⟨_, by (repeat (first | with_reducible assumption | with_reducible apply hp_row12 | (with_reducible refine hp_last ?_; · simp) | (with_reducible refine hp_set ?_ ?_; · simp) | with_reducible refine hp_drewN ?_ | with_reducible refine hp_alloc ?_)), rfl, ?_, ?_⟩
    · rw [unhide hl]; rfl
    · (repeat (first | with_reducible exact GN.refl _ | with_reducible assumption | (with_reducible refine GN.set ?_ ?_ _ _; rotate_left; · simp) | with_reducible refine GN.alloc ?_ _ | with_reducible refine GN.drewN ?_ _))
  · have tt := True.intro
    have hl := hide (show sysK b 6 g rd r1 r2 c = (⟨36, rd, 0, 0, 0, 0, c, 0, r1, true, false, false⟩ : Ins) from by simp [sysK])
    go_wp2_with (first | (go_at_call 14; refine (bits_any _ _ _ (by assumption) (by decide) (by decide) (by decide) _).mono ?_; rintro _ _ ⟨rfl, m_, rfl⟩) | (go_at_call 15; refine (rd_any _ (by assumption) _).mono ?_; rintro _ _ ⟨rfl, m_, rfl⟩) | (go_at_call 18; refine (f3_any _ (by assumption) _).mono ?_; rintro _ _ ⟨rfl, m_, rfl⟩) | (go_at_call 19; refine (rs1_any _ (by assumption) _).mono ?_; rintro _ _ ⟨rfl, m_, rfl⟩) | (go_at_call 22; refine (rs2_any _ (by assumption) _).mono ?_; rintro _ _ ⟨rfl, m_, rfl⟩) | (go_at_call 36; refine (f7_any _ (by assumption) _).mono ?_; rintro _ _ ⟨rfl, m_, rfl⟩))
    refine fin25 2 rfl rfl rfl ⟨_, by (repeat (first | with_reducible assumption | with_reducible apply hp_row12 | (with_reducible refine hp_last ?_; · simp) | (with_reducible refine hp_set ?_ ?_; · simp) | with_reducible refine hp_drewN ?_ | with_reducible refine hp_alloc ?_)), rfl, ?_, ?_⟩
    · rw [unhide hl]; rfl
    · (repeat (first | with_reducible exact GN.refl _ | with_reducible assumption | (with_reducible refine GN.set ?_ ?_ _ _; rotate_left; · simp) | with_reducible refine GN.alloc ?_ _ | with_reducible refine GN.drewN ?_ _))
  · have tt := True.intro
    have hl := hide (show sysK b 7 g rd r1 r2 c = (⟨37, rd, 0, 0, 0, 0, c, 0, r1, true, false, false⟩ : Ins) from by simp [sysK])
    go_wp2_with (first | (go_at_call 14; refine (bits_any _ _ _ (by assumption) (by decide) (by decide) (by decide) _).mono ?_; rintro _ _ ⟨rfl, m_, rfl⟩) | (go_at_call 15; refine (rd_any _ (by assumption) _).mono ?_; rintro _ _ ⟨rfl, m_, rfl⟩) | (go_at_call 18; refine (f3_any _ (by assumption) _).mono ?_; rintro _ _ ⟨rfl, m_, rfl⟩) | (go_at_call 19; refine (rs1_any _ (by assumption) _).mono ?_; rintro _ _ ⟨rfl, m_, rfl⟩) | (go_at_call 22; refine (rs2_any _ (by assumption) _).mono ?_; rintro _ _ ⟨rfl, m_, rfl⟩) | (go_at_call 36; refine (f7_any _ (by assumption) _).mono ?_; rintro _ _ ⟨rfl, m_, rfl⟩))
    refine fin25 2 rfl rfl rfl ⟨_, by (repeat (first | with_reducible assumption | with_reducible apply hp_row12 | (with_reducible refine hp_last ?_; · simp) | (with_reducible refine hp_set ?_ ?_; · simp) | with_reducible refine hp_drewN ?_ | with_reducible refine hp_alloc ?_)), rfl, ?_, ?_⟩
    · rw [unhide hl]; rfl
    · (repeat (first | with_reducible exact GN.refl _ | with_reducible assumption | (with_reducible refine GN.set ?_ ?_ _ _; rotate_left; · simp) | with_reducible refine GN.alloc ?_ _ | with_reducible refine GN.drewN ?_ _))
set_option maxRecDepth 100000 in
set_option maxHeartbeats 4000000 in
theorem atomic_any (b : Nat) (hb : b < 4294967296) (w : World) : Calls Try.prog 29 #[.int .u32 b] w fun r w' => r = .returned (insV (atomI (fd b 12 3) (fd b 27 5) (fd b 7 5) (fd b 15 5) (fd b 20 5))) ∧ GN w w' := by
  obtain ⟨f, hf⟩ : ∃ f, fd b 12 3 = f := ⟨_, rfl⟩
  obtain ⟨g, hg⟩ : ∃ g, fd b 25 7 = g := ⟨_, rfl⟩
  obtain ⟨rd, hrd⟩ : ∃ g, fd b 7 5 = g := ⟨_, rfl⟩
  obtain ⟨r1, hr1⟩ : ∃ g, fd b 15 5 = g := ⟨_, rfl⟩
  obtain ⟨r2, hr2⟩ : ∃ g, fd b 20 5 = g := ⟨_, rfl⟩
  have hf8 : f < 8 := hf ▸ fd_lt b 12 3
  obtain ⟨h, hh⟩ : ∃ g, fd b 27 5 = g := ⟨_, rfl⟩
  rw [hf, hrd, hr1, hr2, hh]
  have h32 : h < 32 := hh ▸ fd_lt b 27 5
  have i1 := ix_atomics h h rfl h32
  obtain ⟨k, hk⟩ : ∃ k, atomK h = k := ⟨_, rfl⟩
  rw [hk] at i1
  have Hk := hide hk
  clear hk
  go_enter Try.func29, Try.ntmps29
  go_upto_region 3 with (first | (go_at_call 14; refine (bits_any _ _ _ (by assumption) (by decide) (by decide) (by decide) _).mono ?_; rintro _ _ ⟨rfl, m_, rfl⟩) | (go_at_call 15; refine (rd_any _ (by assumption) _).mono ?_; rintro _ _ ⟨rfl, m_, rfl⟩) | (go_at_call 18; refine (f3_any _ (by assumption) _).mono ?_; rintro _ _ ⟨rfl, m_, rfl⟩) | (go_at_call 19; refine (rs1_any _ (by assumption) _).mono ?_; rintro _ _ ⟨rfl, m_, rfl⟩) | (go_at_call 22; refine (rs2_any _ (by assumption) _).mono ?_; rintro _ _ ⟨rfl, m_, rfl⟩) | (go_at_call 38; refine (atomics_any _).mono ?_; rintro _ _ ⟨rfl, o_, rfl⟩))
  have hc : f = 2 ∨ f = 3 ∨ (f ≠ 2 ∧ f ≠ 3) := by omega
  clear hf8
  rcases hc with rfl | rfl | ⟨f2, f3⟩
  · have kc : k = 0 ∨ (k = 38 ∧ r2 = 0) ∨ (k = 38 ∧ r2 ≠ 0) ∨ (k ≠ 0 ∧ k ≠ 38) := by omega
    rcases kc with rfl | ⟨rfl, rfl⟩ | ⟨rfl, q2⟩ | ⟨k0, k1⟩
    · have tt := True.intro
      have hl := hide (show atomI 2 h rd r1 r2 = zero from by simp [atomI, unhide Hk])
      go_wp2_with (first | (go_at_call 14; refine (bits_any _ _ _ (by assumption) (by decide) (by decide) (by decide) _).mono ?_; rintro _ _ ⟨rfl, m_, rfl⟩) | (go_at_call 15; refine (rd_any _ (by assumption) _).mono ?_; rintro _ _ ⟨rfl, m_, rfl⟩) | (go_at_call 18; refine (f3_any _ (by assumption) _).mono ?_; rintro _ _ ⟨rfl, m_, rfl⟩) | (go_at_call 19; refine (rs1_any _ (by assumption) _).mono ?_; rintro _ _ ⟨rfl, m_, rfl⟩) | (go_at_call 22; refine (rs2_any _ (by assumption) _).mono ?_; rintro _ _ ⟨rfl, m_, rfl⟩) | (go_at_call 38; refine (atomics_any _).mono ?_; rintro _ _ ⟨rfl, o_, rfl⟩))
      refine fin25 2 rfl rfl rfl ⟨_, by (repeat (first | with_reducible assumption | with_reducible apply hp_row12 | (with_reducible refine hp_last ?_; · simp) | (with_reducible refine hp_set ?_ ?_; · simp) | with_reducible refine hp_drewN ?_ | with_reducible refine hp_alloc ?_)), rfl, ?_, ?_⟩
      · rw [unhide hl]; rfl
      · (repeat (first | with_reducible exact GN.refl _ | with_reducible assumption | (with_reducible refine GN.set ?_ ?_ _ _; rotate_left; · simp) | with_reducible refine GN.alloc ?_ _ | with_reducible refine GN.drewN ?_ _))
    · have tt := True.intro
      have hl := hide (show atomI 2 h rd r1 0 = (⟨38, rd, r1, 0, 0, 0, 0, 4, 0, false, false, false⟩ : Ins) from by simp [atomI, unhide Hk])
      go_wp2_with (first | (go_at_call 14; refine (bits_any _ _ _ (by assumption) (by decide) (by decide) (by decide) _).mono ?_; rintro _ _ ⟨rfl, m_, rfl⟩) | (go_at_call 15; refine (rd_any _ (by assumption) _).mono ?_; rintro _ _ ⟨rfl, m_, rfl⟩) | (go_at_call 18; refine (f3_any _ (by assumption) _).mono ?_; rintro _ _ ⟨rfl, m_, rfl⟩) | (go_at_call 19; refine (rs1_any _ (by assumption) _).mono ?_; rintro _ _ ⟨rfl, m_, rfl⟩) | (go_at_call 22; refine (rs2_any _ (by assumption) _).mono ?_; rintro _ _ ⟨rfl, m_, rfl⟩) | (go_at_call 38; refine (atomics_any _).mono ?_; rintro _ _ ⟨rfl, o_, rfl⟩))
      refine fin25 2 rfl rfl rfl ⟨_, by (repeat (first | with_reducible assumption | with_reducible apply hp_row12 | (with_reducible refine hp_last ?_; · simp) | (with_reducible refine hp_set ?_ ?_; · simp) | with_reducible refine hp_drewN ?_ | with_reducible refine hp_alloc ?_)), rfl, ?_, ?_⟩
      · rw [unhide hl]; rfl
      · (repeat (first | with_reducible exact GN.refl _ | with_reducible assumption | (with_reducible refine GN.set ?_ ?_ _ _; rotate_left; · simp) | with_reducible refine GN.alloc ?_ _ | with_reducible refine GN.drewN ?_ _))
    · have n2 := ne_t (show ((r2 : Nat) : Int) ≠ 0 by omega)
      have hl := hide (show atomI 2 h rd r1 r2 = zero from by simp [atomI, unhide Hk, q2])
      go_wp2_with (first | (go_at_call 14; refine (bits_any _ _ _ (by assumption) (by decide) (by decide) (by decide) _).mono ?_; rintro _ _ ⟨rfl, m_, rfl⟩) | (go_at_call 15; refine (rd_any _ (by assumption) _).mono ?_; rintro _ _ ⟨rfl, m_, rfl⟩) | (go_at_call 18; refine (f3_any _ (by assumption) _).mono ?_; rintro _ _ ⟨rfl, m_, rfl⟩) | (go_at_call 19; refine (rs1_any _ (by assumption) _).mono ?_; rintro _ _ ⟨rfl, m_, rfl⟩) | (go_at_call 22; refine (rs2_any _ (by assumption) _).mono ?_; rintro _ _ ⟨rfl, m_, rfl⟩) | (go_at_call 38; refine (atomics_any _).mono ?_; rintro _ _ ⟨rfl, o_, rfl⟩))
      refine fin25 2 rfl rfl rfl ⟨_, by (repeat (first | with_reducible assumption | with_reducible apply hp_row12 | (with_reducible refine hp_last ?_; · simp) | (with_reducible refine hp_set ?_ ?_; · simp) | with_reducible refine hp_drewN ?_ | with_reducible refine hp_alloc ?_)), rfl, ?_, ?_⟩
      · rw [unhide hl]; rfl
      · (repeat (first | with_reducible exact GN.refl _ | with_reducible assumption | (with_reducible refine GN.set ?_ ?_ _ _; rotate_left; · simp) | with_reducible refine GN.alloc ?_ _ | with_reducible refine GN.drewN ?_ _))
    · have n0 := ne_b k0
      have n38 := ne_b k1
      have hl := hide (show atomI 2 h rd r1 r2 = (⟨k, rd, r1, r2, 0, 0, 0, 4, 0, false, false, false⟩ : Ins) from by simp [atomI, unhide Hk, k0, k1])
      go_wp2_with (first | (go_at_call 14; refine (bits_any _ _ _ (by assumption) (by decide) (by decide) (by decide) _).mono ?_; rintro _ _ ⟨rfl, m_, rfl⟩) | (go_at_call 15; refine (rd_any _ (by assumption) _).mono ?_; rintro _ _ ⟨rfl, m_, rfl⟩) | (go_at_call 18; refine (f3_any _ (by assumption) _).mono ?_; rintro _ _ ⟨rfl, m_, rfl⟩) | (go_at_call 19; refine (rs1_any _ (by assumption) _).mono ?_; rintro _ _ ⟨rfl, m_, rfl⟩) | (go_at_call 22; refine (rs2_any _ (by assumption) _).mono ?_; rintro _ _ ⟨rfl, m_, rfl⟩) | (go_at_call 38; refine (atomics_any _).mono ?_; rintro _ _ ⟨rfl, o_, rfl⟩))
      refine fin25 2 rfl rfl rfl ⟨_, by (repeat (first | with_reducible assumption | with_reducible apply hp_row12 | (with_reducible refine hp_last ?_; · simp) | (with_reducible refine hp_set ?_ ?_; · simp) | with_reducible refine hp_drewN ?_ | with_reducible refine hp_alloc ?_)), rfl, ?_, ?_⟩
      · rw [unhide hl]; rfl
      · (repeat (first | with_reducible exact GN.refl _ | with_reducible assumption | (with_reducible refine GN.set ?_ ?_ _ _; rotate_left; · simp) | with_reducible refine GN.alloc ?_ _ | with_reducible refine GN.drewN ?_ _))
  · have kc : k = 0 ∨ (k = 38 ∧ r2 = 0) ∨ (k = 38 ∧ r2 ≠ 0) ∨ (k ≠ 0 ∧ k ≠ 38) := by omega
    rcases kc with rfl | ⟨rfl, rfl⟩ | ⟨rfl, q2⟩ | ⟨k0, k1⟩
    · have tt := True.intro
      have hl := hide (show atomI 3 h rd r1 r2 = zero from by simp [atomI, unhide Hk])
      go_wp2_with (first | (go_at_call 14; refine (bits_any _ _ _ (by assumption) (by decide) (by decide) (by decide) _).mono ?_; rintro _ _ ⟨rfl, m_, rfl⟩) | (go_at_call 15; refine (rd_any _ (by assumption) _).mono ?_; rintro _ _ ⟨rfl, m_, rfl⟩) | (go_at_call 18; refine (f3_any _ (by assumption) _).mono ?_; rintro _ _ ⟨rfl, m_, rfl⟩) | (go_at_call 19; refine (rs1_any _ (by assumption) _).mono ?_; rintro _ _ ⟨rfl, m_, rfl⟩) | (go_at_call 22; refine (rs2_any _ (by assumption) _).mono ?_; rintro _ _ ⟨rfl, m_, rfl⟩) | (go_at_call 38; refine (atomics_any _).mono ?_; rintro _ _ ⟨rfl, o_, rfl⟩))
      refine fin25 2 rfl rfl rfl ⟨_, by (repeat (first | with_reducible assumption | with_reducible apply hp_row12 | (with_reducible refine hp_last ?_; · simp) | (with_reducible refine hp_set ?_ ?_; · simp) | with_reducible refine hp_drewN ?_ | with_reducible refine hp_alloc ?_)), rfl, ?_, ?_⟩
      · rw [unhide hl]; rfl
      · (repeat (first | with_reducible exact GN.refl _ | with_reducible assumption | (with_reducible refine GN.set ?_ ?_ _ _; rotate_left; · simp) | with_reducible refine GN.alloc ?_ _ | with_reducible refine GN.drewN ?_ _))
    · have tt := True.intro
      have hl := hide (show atomI 3 h rd r1 0 = (⟨38, rd, r1, 0, 0, 0, 0, 8, 0, false, false, false⟩ : Ins) from by simp [atomI, unhide Hk])
      go_wp2_with (first | (go_at_call 14; refine (bits_any _ _ _ (by assumption) (by decide) (by decide) (by decide) _).mono ?_; rintro _ _ ⟨rfl, m_, rfl⟩) | (go_at_call 15; refine (rd_any _ (by assumption) _).mono ?_; rintro _ _ ⟨rfl, m_, rfl⟩) | (go_at_call 18; refine (f3_any _ (by assumption) _).mono ?_; rintro _ _ ⟨rfl, m_, rfl⟩) | (go_at_call 19; refine (rs1_any _ (by assumption) _).mono ?_; rintro _ _ ⟨rfl, m_, rfl⟩) | (go_at_call 22; refine (rs2_any _ (by assumption) _).mono ?_; rintro _ _ ⟨rfl, m_, rfl⟩) | (go_at_call 38; refine (atomics_any _).mono ?_; rintro _ _ ⟨rfl, o_, rfl⟩))
      refine fin25 2 rfl rfl rfl ⟨_, by (repeat (first | with_reducible assumption | with_reducible apply hp_row12 | (with_reducible refine hp_last ?_; · simp) | (with_reducible refine hp_set ?_ ?_; · simp) | with_reducible refine hp_drewN ?_ | with_reducible refine hp_alloc ?_)), rfl, ?_, ?_⟩
      · rw [unhide hl]; rfl
      · (repeat (first | with_reducible exact GN.refl _ | with_reducible assumption | (with_reducible refine GN.set ?_ ?_ _ _; rotate_left; · simp) | with_reducible refine GN.alloc ?_ _ | with_reducible refine GN.drewN ?_ _))
    · have n2 := ne_t (show ((r2 : Nat) : Int) ≠ 0 by omega)
      have hl := hide (show atomI 3 h rd r1 r2 = zero from by simp [atomI, unhide Hk, q2])
      go_wp2_with (first | (go_at_call 14; refine (bits_any _ _ _ (by assumption) (by decide) (by decide) (by decide) _).mono ?_; rintro _ _ ⟨rfl, m_, rfl⟩) | (go_at_call 15; refine (rd_any _ (by assumption) _).mono ?_; rintro _ _ ⟨rfl, m_, rfl⟩) | (go_at_call 18; refine (f3_any _ (by assumption) _).mono ?_; rintro _ _ ⟨rfl, m_, rfl⟩) | (go_at_call 19; refine (rs1_any _ (by assumption) _).mono ?_; rintro _ _ ⟨rfl, m_, rfl⟩) | (go_at_call 22; refine (rs2_any _ (by assumption) _).mono ?_; rintro _ _ ⟨rfl, m_, rfl⟩) | (go_at_call 38; refine (atomics_any _).mono ?_; rintro _ _ ⟨rfl, o_, rfl⟩))
      refine fin25 2 rfl rfl rfl ⟨_, by (repeat (first | with_reducible assumption | with_reducible apply hp_row12 | (with_reducible refine hp_last ?_; · simp) | (with_reducible refine hp_set ?_ ?_; · simp) | with_reducible refine hp_drewN ?_ | with_reducible refine hp_alloc ?_)), rfl, ?_, ?_⟩
      · rw [unhide hl]; rfl
      · (repeat (first | with_reducible exact GN.refl _ | with_reducible assumption | (with_reducible refine GN.set ?_ ?_ _ _; rotate_left; · simp) | with_reducible refine GN.alloc ?_ _ | with_reducible refine GN.drewN ?_ _))
    · have n0 := ne_b k0
      have n38 := ne_b k1
      have hl := hide (show atomI 3 h rd r1 r2 = (⟨k, rd, r1, r2, 0, 0, 0, 8, 0, false, false, false⟩ : Ins) from by simp [atomI, unhide Hk, k0, k1])
      go_wp2_with (first | (go_at_call 14; refine (bits_any _ _ _ (by assumption) (by decide) (by decide) (by decide) _).mono ?_; rintro _ _ ⟨rfl, m_, rfl⟩) | (go_at_call 15; refine (rd_any _ (by assumption) _).mono ?_; rintro _ _ ⟨rfl, m_, rfl⟩) | (go_at_call 18; refine (f3_any _ (by assumption) _).mono ?_; rintro _ _ ⟨rfl, m_, rfl⟩) | (go_at_call 19; refine (rs1_any _ (by assumption) _).mono ?_; rintro _ _ ⟨rfl, m_, rfl⟩) | (go_at_call 22; refine (rs2_any _ (by assumption) _).mono ?_; rintro _ _ ⟨rfl, m_, rfl⟩) | (go_at_call 38; refine (atomics_any _).mono ?_; rintro _ _ ⟨rfl, o_, rfl⟩))
      refine fin25 2 rfl rfl rfl ⟨_, by (repeat (first | with_reducible assumption | with_reducible apply hp_row12 | (with_reducible refine hp_last ?_; · simp) | (with_reducible refine hp_set ?_ ?_; · simp) | with_reducible refine hp_drewN ?_ | with_reducible refine hp_alloc ?_)), rfl, ?_, ?_⟩
      · rw [unhide hl]; rfl
      · (repeat (first | with_reducible exact GN.refl _ | with_reducible assumption | (with_reducible refine GN.set ?_ ?_ _ _; rotate_left; · simp) | with_reducible refine GN.alloc ?_ _ | with_reducible refine GN.drewN ?_ _))
  · have n2 := ne_t (show ((f : Nat) : Int) ≠ 2 by omega)
    have n3 := ne_t (show ((f : Nat) : Int) ≠ 3 by omega)
    have hl := hide (show atomI f h rd r1 r2 = zero from by simp [atomI, f2, f3])
    go_wp2_with (first | (go_at_call 14; refine (bits_any _ _ _ (by assumption) (by decide) (by decide) (by decide) _).mono ?_; rintro _ _ ⟨rfl, m_, rfl⟩) | (go_at_call 15; refine (rd_any _ (by assumption) _).mono ?_; rintro _ _ ⟨rfl, m_, rfl⟩) | (go_at_call 18; refine (f3_any _ (by assumption) _).mono ?_; rintro _ _ ⟨rfl, m_, rfl⟩) | (go_at_call 19; refine (rs1_any _ (by assumption) _).mono ?_; rintro _ _ ⟨rfl, m_, rfl⟩) | (go_at_call 22; refine (rs2_any _ (by assumption) _).mono ?_; rintro _ _ ⟨rfl, m_, rfl⟩) | (go_at_call 38; refine (atomics_any _).mono ?_; rintro _ _ ⟨rfl, o_, rfl⟩))
    refine fin25 2 rfl rfl rfl ⟨_, by (repeat (first | with_reducible assumption | with_reducible apply hp_row12 | (with_reducible refine hp_last ?_; · simp) | (with_reducible refine hp_set ?_ ?_; · simp) | with_reducible refine hp_drewN ?_ | with_reducible refine hp_alloc ?_)), rfl, ?_, ?_⟩
    · rw [unhide hl]; rfl
    · (repeat (first | with_reducible exact GN.refl _ | with_reducible assumption | (with_reducible refine GN.set ?_ ?_ _ _; rotate_left; · simp) | with_reducible refine GN.alloc ?_ _ | with_reducible refine GN.drewN ?_ _))
end Go.Proofs.Ytopbdiekfhikmaa
