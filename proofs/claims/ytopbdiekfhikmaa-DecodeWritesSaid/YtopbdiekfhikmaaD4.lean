/- Layer 3: registers, system, atomics. -/
import Derived.Test.YtopbdiekfhikmaaD3
namespace Go.Proofs.Ytopbdiekfhikmaa
open Go.RowKit
def sumK : Nat → Int
  | 0 => 13 | 1 => 15 | 2 => 16 | 3 => 17 | 4 => 18 | 5 => 19 | 6 => 21 | 7 => 22 | _ => 0
def atomK : Nat → Int
  | 0 => 41 | 1 => 40 | 2 => 38 | 3 => 39 | 4 => 42 | 8 => 44 | 12 => 43 | 16 => 45 | 20 => 46 | 24 => 47 | 28 => 48 | _ => 0
theorem lt8 {f : Nat} (h : f < 8) : f = 0 ∨ f = 1 ∨ f = 2 ∨ f = 3 ∨ f = 4 ∨ f = 5 ∨ f = 6 ∨ f = 7 := by omega
theorem lt32 {f : Nat} (h : f < 32) : f = 0 ∨ f = 1 ∨ f = 2 ∨ f = 3 ∨ f = 4 ∨ f = 5 ∨ f = 6 ∨ f = 7 ∨ f = 8 ∨ f = 9 ∨ f = 10 ∨ f = 11 ∨ f = 12 ∨ f = 13 ∨ f = 14 ∨ f = 15 ∨ f = 16 ∨ f = 17 ∨ f = 18 ∨ f = 19 ∨ f = 20 ∨ f = 21 ∨ f = 22 ∨ f = 23 ∨ f = 24 ∨ f = 25 ∨ f = 26 ∨ f = 27 ∨ f = 28 ∨ f = 29 ∨ f = 30 ∨ f = 31 := by omega
theorem ix_sums (f : Nat) (z : Int) (hz : (f : Int) = z) (h : f < 8) (w : World) : (Instr.index 38 (.agg #[.int .i64 13, .int .i64 15, .int .i64 16, .int .i64 17, .int .i64 18, .int .i64 19, .int .i64 21, .int .i64 22]) (.int .i64 z)).run Try.prog w = .ok (.int .i64 (sumK f)) w := by
  subst hz
  rcases lt8 h with rfl | rfl | rfl | rfl | rfl | rfl | rfl | rfl <;> kernel_rfl
theorem ix_products (f : Nat) (z : Int) (hz : (f : Int) = z) (h : f < 8) (w : World) : (Instr.index 38 (.agg #[.int .i64 23, .int .i64 24, .int .i64 25, .int .i64 26, .int .i64 27, .int .i64 28, .int .i64 29, .int .i64 30]) (.int .i64 z)).run Try.prog w = .ok (.int .i64 ((23 + f : Nat) : Int)) w := by
  subst hz
  rcases lt8 h with rfl | rfl | rfl | rfl | rfl | rfl | rfl | rfl <;> kernel_rfl
theorem ix_atomics (f : Nat) (z : Int) (hz : (f : Int) = z) (h : f < 32) (w : World) : (Instr.index 52 (.agg #[.int .i64 41, .int .i64 40, .int .i64 38, .int .i64 39, .int .i64 42, .int .i64 0, .int .i64 0, .int .i64 0, .int .i64 44, .int .i64 0, .int .i64 0, .int .i64 0, .int .i64 43, .int .i64 0, .int .i64 0, .int .i64 0, .int .i64 45, .int .i64 0, .int .i64 0, .int .i64 0, .int .i64 46, .int .i64 0, .int .i64 0, .int .i64 0, .int .i64 47, .int .i64 0, .int .i64 0, .int .i64 0, .int .i64 48, .int .i64 0, .int .i64 0, .int .i64 0]) (.int .i64 z)).run Try.prog w = .ok (.int .i64 (atomK f)) w := by
  subst hz
  rcases lt32 h with rfl | rfl | rfl | rfl | rfl | rfl | rfl | rfl | rfl | rfl | rfl | rfl | rfl | rfl | rfl | rfl | rfl | rfl | rfl | rfl | rfl | rfl | rfl | rfl | rfl | rfl | rfl | rfl | rfl | rfl | rfl | rfl <;> kernel_rfl
theorem ne_b {a b : Int} (h : a ≠ b) : (a == b) = false := by simp [h]
theorem eq_t {a b : Int} (h : a = b) : (a == b) = true := by simp [h]
theorem ne_t {a b : Int} (h : a ≠ b) : (a != b) = true := by simp [h]
def regX (k : Int) (rd r1 r2 : Nat) (short : Bool) : Ins := ⟨k, rd, r1, r2, 0, 0, 0, 0, 0, false, false, short⟩
def regK (f g rd r1 r2 : Nat) (short : Bool) : Ins :=
  if g = 0 ∧ (short = false ∨ f = 0 ∨ f = 1 ∨ f = 5) then regX (sumK f) rd r1 r2 short
  else if g = 1 ∧ (short = false ∨ f = 0 ∨ 4 ≤ f) then regX ((23 + f : Nat) : Int) rd r1 r2 short
  else if g = 32 ∧ f = 0 then regX 14 rd r1 r2 short
  else if g = 32 ∧ f = 5 then regX 20 rd r1 r2 short
  else zero
set_option maxRecDepth 100000 in
set_option maxHeartbeats 4000000 in
theorem registers_any (b : Nat) (hb : b < 4294967296) (short : Bool) (w : World) : Calls Try.prog 27 #[.int .u32 b, .bool short] w fun r w' => r = .returned (insV (regK (fd b 12 3) (fd b 25 7) (fd b 7 5) (fd b 15 5) (fd b 20 5) short)) ∧ GN w w' := by
  obtain ⟨f, hf⟩ : ∃ f, fd b 12 3 = f := ⟨_, rfl⟩
  obtain ⟨g, hg⟩ : ∃ g, fd b 25 7 = g := ⟨_, rfl⟩
  obtain ⟨rd, hrd⟩ : ∃ g, fd b 7 5 = g := ⟨_, rfl⟩
  obtain ⟨r1, hr1⟩ : ∃ g, fd b 15 5 = g := ⟨_, rfl⟩
  obtain ⟨r2, hr2⟩ : ∃ g, fd b 20 5 = g := ⟨_, rfl⟩
  have hf8 : f < 8 := hf ▸ fd_lt b 12 3
  have i1 := ix_sums f f rfl hf8
  have i2 := ix_products f f rfl hf8
  rw [hf, hg, hrd, hr1, hr2]
  go_enter Try.func27, Try.ntmps27
  go_upto_region 4 with (first | (go_at_call 15; refine (rd_any _ (by assumption) _).mono ?_; rintro _ _ ⟨rfl, m_, rfl⟩) | (go_at_call 18; refine (f3_any _ (by assumption) _).mono ?_; rintro _ _ ⟨rfl, m_, rfl⟩) | (go_at_call 19; refine (rs1_any _ (by assumption) _).mono ?_; rintro _ _ ⟨rfl, m_, rfl⟩) | (go_at_call 22; refine (rs2_any _ (by assumption) _).mono ?_; rintro _ _ ⟨rfl, m_, rfl⟩) | (go_at_call 36; refine (f7_any _ (by assumption) _).mono ?_; rintro _ _ ⟨rfl, m_, rfl⟩) | (go_at_call 35; refine (sums_any _).mono ?_; rintro _ _ ⟨rfl, o_, rfl⟩) | (go_at_call 37; refine (products_any _).mono ?_; rintro _ _ ⟨rfl, o_, rfl⟩))
  have hgc : g = 0 ∨ g = 1 ∨ g = 32 ∨ (g ≠ 0 ∧ g ≠ 1 ∧ g ≠ 32) := by omega
  rcases hgc with rfl | rfl | rfl | ⟨g0, g1, g2⟩
  · cases short
    · have tt := True.intro
      have hl := hide (show regK f 0 rd r1 r2 false = regX (sumK f) rd r1 r2 false from by simp [regK])
      go_wp2_with (first | (go_at_call 15; refine (rd_any _ (by assumption) _).mono ?_; rintro _ _ ⟨rfl, m_, rfl⟩) | (go_at_call 18; refine (f3_any _ (by assumption) _).mono ?_; rintro _ _ ⟨rfl, m_, rfl⟩) | (go_at_call 19; refine (rs1_any _ (by assumption) _).mono ?_; rintro _ _ ⟨rfl, m_, rfl⟩) | (go_at_call 22; refine (rs2_any _ (by assumption) _).mono ?_; rintro _ _ ⟨rfl, m_, rfl⟩) | (go_at_call 36; refine (f7_any _ (by assumption) _).mono ?_; rintro _ _ ⟨rfl, m_, rfl⟩) | (go_at_call 35; refine (sums_any _).mono ?_; rintro _ _ ⟨rfl, o_, rfl⟩) | (go_at_call 37; refine (products_any _).mono ?_; rintro _ _ ⟨rfl, o_, rfl⟩))
      refine fin25 4 rfl rfl rfl ⟨_, by (repeat (first | with_reducible assumption | with_reducible apply hp_row12 | (with_reducible refine hp_last ?_; · simp) | (with_reducible refine hp_set ?_ ?_; · simp) | with_reducible refine hp_drewN ?_ | with_reducible refine hp_alloc ?_)), rfl, ?_, ?_⟩
      · rw [unhide hl]; rfl
      · (repeat (first | with_reducible exact GN.refl _ | with_reducible assumption | (with_reducible refine GN.set ?_ ?_ _ _; rotate_left; · simp) | with_reducible refine GN.alloc ?_ _ | with_reducible refine GN.drewN ?_ _))
    · have hc : f = 0 ∨ f = 1 ∨ f = 5 ∨ (f ≠ 0 ∧ f ≠ 1 ∧ f ≠ 5) := by omega
      rcases hc with rfl | rfl | rfl | ⟨f0, f1, f5⟩
      · clear hf8 i1 i2
        have i1 := ix_sums 0 0 rfl (by decide)
        have hl := hide (show regK 0 0 rd r1 r2 true = regX (sumK 0) rd r1 r2 true from by simp [regK])
        go_wp2_with (first | (go_at_call 15; refine (rd_any _ (by assumption) _).mono ?_; rintro _ _ ⟨rfl, m_, rfl⟩) | (go_at_call 18; refine (f3_any _ (by assumption) _).mono ?_; rintro _ _ ⟨rfl, m_, rfl⟩) | (go_at_call 19; refine (rs1_any _ (by assumption) _).mono ?_; rintro _ _ ⟨rfl, m_, rfl⟩) | (go_at_call 22; refine (rs2_any _ (by assumption) _).mono ?_; rintro _ _ ⟨rfl, m_, rfl⟩) | (go_at_call 36; refine (f7_any _ (by assumption) _).mono ?_; rintro _ _ ⟨rfl, m_, rfl⟩) | (go_at_call 35; refine (sums_any _).mono ?_; rintro _ _ ⟨rfl, o_, rfl⟩) | (go_at_call 37; refine (products_any _).mono ?_; rintro _ _ ⟨rfl, o_, rfl⟩))
        refine fin25 4 rfl rfl rfl ⟨_, by (repeat (first | with_reducible assumption | with_reducible apply hp_row12 | (with_reducible refine hp_last ?_; · simp) | (with_reducible refine hp_set ?_ ?_; · simp) | with_reducible refine hp_drewN ?_ | with_reducible refine hp_alloc ?_)), rfl, ?_, ?_⟩
        · rw [unhide hl]; rfl
        · (repeat (first | with_reducible exact GN.refl _ | with_reducible assumption | (with_reducible refine GN.set ?_ ?_ _ _; rotate_left; · simp) | with_reducible refine GN.alloc ?_ _ | with_reducible refine GN.drewN ?_ _))
      · clear hf8 i1 i2
        have i1 := ix_sums 1 1 rfl (by decide)
        have hl := hide (show regK 1 0 rd r1 r2 true = regX (sumK 1) rd r1 r2 true from by simp [regK])
        go_wp2_with (first | (go_at_call 15; refine (rd_any _ (by assumption) _).mono ?_; rintro _ _ ⟨rfl, m_, rfl⟩) | (go_at_call 18; refine (f3_any _ (by assumption) _).mono ?_; rintro _ _ ⟨rfl, m_, rfl⟩) | (go_at_call 19; refine (rs1_any _ (by assumption) _).mono ?_; rintro _ _ ⟨rfl, m_, rfl⟩) | (go_at_call 22; refine (rs2_any _ (by assumption) _).mono ?_; rintro _ _ ⟨rfl, m_, rfl⟩) | (go_at_call 36; refine (f7_any _ (by assumption) _).mono ?_; rintro _ _ ⟨rfl, m_, rfl⟩) | (go_at_call 35; refine (sums_any _).mono ?_; rintro _ _ ⟨rfl, o_, rfl⟩) | (go_at_call 37; refine (products_any _).mono ?_; rintro _ _ ⟨rfl, o_, rfl⟩))
        refine fin25 4 rfl rfl rfl ⟨_, by (repeat (first | with_reducible assumption | with_reducible apply hp_row12 | (with_reducible refine hp_last ?_; · simp) | (with_reducible refine hp_set ?_ ?_; · simp) | with_reducible refine hp_drewN ?_ | with_reducible refine hp_alloc ?_)), rfl, ?_, ?_⟩
        · rw [unhide hl]; rfl
        · (repeat (first | with_reducible exact GN.refl _ | with_reducible assumption | (with_reducible refine GN.set ?_ ?_ _ _; rotate_left; · simp) | with_reducible refine GN.alloc ?_ _ | with_reducible refine GN.drewN ?_ _))
      · clear hf8 i1 i2
        have i1 := ix_sums 5 5 rfl (by decide)
        have hl := hide (show regK 5 0 rd r1 r2 true = regX (sumK 5) rd r1 r2 true from by simp [regK])
        go_wp2_with (first | (go_at_call 15; refine (rd_any _ (by assumption) _).mono ?_; rintro _ _ ⟨rfl, m_, rfl⟩) | (go_at_call 18; refine (f3_any _ (by assumption) _).mono ?_; rintro _ _ ⟨rfl, m_, rfl⟩) | (go_at_call 19; refine (rs1_any _ (by assumption) _).mono ?_; rintro _ _ ⟨rfl, m_, rfl⟩) | (go_at_call 22; refine (rs2_any _ (by assumption) _).mono ?_; rintro _ _ ⟨rfl, m_, rfl⟩) | (go_at_call 36; refine (f7_any _ (by assumption) _).mono ?_; rintro _ _ ⟨rfl, m_, rfl⟩) | (go_at_call 35; refine (sums_any _).mono ?_; rintro _ _ ⟨rfl, o_, rfl⟩) | (go_at_call 37; refine (products_any _).mono ?_; rintro _ _ ⟨rfl, o_, rfl⟩))
        refine fin25 4 rfl rfl rfl ⟨_, by (repeat (first | with_reducible assumption | with_reducible apply hp_row12 | (with_reducible refine hp_last ?_; · simp) | (with_reducible refine hp_set ?_ ?_; · simp) | with_reducible refine hp_drewN ?_ | with_reducible refine hp_alloc ?_)), rfl, ?_, ?_⟩
        · rw [unhide hl]; rfl
        · (repeat (first | with_reducible exact GN.refl _ | with_reducible assumption | (with_reducible refine GN.set ?_ ?_ _ _; rotate_left; · simp) | with_reducible refine GN.alloc ?_ _ | with_reducible refine GN.drewN ?_ _))
      · have n0 := ne_b (show ((f : Nat) : Int) ≠ 0 by omega)
        have n1 := ne_b (show ((f : Nat) : Int) ≠ 1 by omega)
        have n5 := ne_b (show ((f : Nat) : Int) ≠ 5 by omega)
        have hl := hide (show regK f 0 rd r1 r2 true = zero from by simp [regK, f0, f1, f5])
        go_wp2_with (first | (go_at_call 15; refine (rd_any _ (by assumption) _).mono ?_; rintro _ _ ⟨rfl, m_, rfl⟩) | (go_at_call 18; refine (f3_any _ (by assumption) _).mono ?_; rintro _ _ ⟨rfl, m_, rfl⟩) | (go_at_call 19; refine (rs1_any _ (by assumption) _).mono ?_; rintro _ _ ⟨rfl, m_, rfl⟩) | (go_at_call 22; refine (rs2_any _ (by assumption) _).mono ?_; rintro _ _ ⟨rfl, m_, rfl⟩) | (go_at_call 36; refine (f7_any _ (by assumption) _).mono ?_; rintro _ _ ⟨rfl, m_, rfl⟩) | (go_at_call 35; refine (sums_any _).mono ?_; rintro _ _ ⟨rfl, o_, rfl⟩) | (go_at_call 37; refine (products_any _).mono ?_; rintro _ _ ⟨rfl, o_, rfl⟩))
        refine fin25 4 rfl rfl rfl ⟨_, by (repeat (first | with_reducible assumption | with_reducible apply hp_row12 | (with_reducible refine hp_last ?_; · simp) | (with_reducible refine hp_set ?_ ?_; · simp) | with_reducible refine hp_drewN ?_ | with_reducible refine hp_alloc ?_)), rfl, ?_, ?_⟩
        · rw [unhide hl]; rfl
        · (repeat (first | with_reducible exact GN.refl _ | with_reducible assumption | (with_reducible refine GN.set ?_ ?_ _ _; rotate_left; · simp) | with_reducible refine GN.alloc ?_ _ | with_reducible refine GN.drewN ?_ _))
  · cases short
    · have tt := True.intro
      have hl := hide (show regK f 1 rd r1 r2 false = regX ((23 + f : Nat) : Int) rd r1 r2 false from by simp [regK])
      go_wp2_with (first | (go_at_call 15; refine (rd_any _ (by assumption) _).mono ?_; rintro _ _ ⟨rfl, m_, rfl⟩) | (go_at_call 18; refine (f3_any _ (by assumption) _).mono ?_; rintro _ _ ⟨rfl, m_, rfl⟩) | (go_at_call 19; refine (rs1_any _ (by assumption) _).mono ?_; rintro _ _ ⟨rfl, m_, rfl⟩) | (go_at_call 22; refine (rs2_any _ (by assumption) _).mono ?_; rintro _ _ ⟨rfl, m_, rfl⟩) | (go_at_call 36; refine (f7_any _ (by assumption) _).mono ?_; rintro _ _ ⟨rfl, m_, rfl⟩) | (go_at_call 35; refine (sums_any _).mono ?_; rintro _ _ ⟨rfl, o_, rfl⟩) | (go_at_call 37; refine (products_any _).mono ?_; rintro _ _ ⟨rfl, o_, rfl⟩))
      refine fin25 4 rfl rfl rfl ⟨_, by (repeat (first | with_reducible assumption | with_reducible apply hp_row12 | (with_reducible refine hp_last ?_; · simp) | (with_reducible refine hp_set ?_ ?_; · simp) | with_reducible refine hp_drewN ?_ | with_reducible refine hp_alloc ?_)), rfl, ?_, ?_⟩
      · rw [unhide hl]; rfl
      · (repeat (first | with_reducible exact GN.refl _ | with_reducible assumption | (with_reducible refine GN.set ?_ ?_ _ _; rotate_left; · simp) | with_reducible refine GN.alloc ?_ _ | with_reducible refine GN.drewN ?_ _))
    · have hc : f = 0 ∨ (f ≠ 0 ∧ 4 ≤ f) ∨ (f ≠ 0 ∧ ¬ 4 ≤ f) := by omega
      rcases hc with rfl | ⟨f0, f4⟩ | ⟨f0, f4⟩
      · clear hf8 i1 i2
        have i2 := ix_products 0 0 rfl (by decide)
        have hl := hide (show regK 0 1 rd r1 r2 true = regX 23 rd r1 r2 true from by simp [regK])
        go_wp2_with (first | (go_at_call 15; refine (rd_any _ (by assumption) _).mono ?_; rintro _ _ ⟨rfl, m_, rfl⟩) | (go_at_call 18; refine (f3_any _ (by assumption) _).mono ?_; rintro _ _ ⟨rfl, m_, rfl⟩) | (go_at_call 19; refine (rs1_any _ (by assumption) _).mono ?_; rintro _ _ ⟨rfl, m_, rfl⟩) | (go_at_call 22; refine (rs2_any _ (by assumption) _).mono ?_; rintro _ _ ⟨rfl, m_, rfl⟩) | (go_at_call 36; refine (f7_any _ (by assumption) _).mono ?_; rintro _ _ ⟨rfl, m_, rfl⟩) | (go_at_call 35; refine (sums_any _).mono ?_; rintro _ _ ⟨rfl, o_, rfl⟩) | (go_at_call 37; refine (products_any _).mono ?_; rintro _ _ ⟨rfl, o_, rfl⟩))
        refine fin25 4 rfl rfl rfl ⟨_, by (repeat (first | with_reducible assumption | with_reducible apply hp_row12 | (with_reducible refine hp_last ?_; · simp) | (with_reducible refine hp_set ?_ ?_; · simp) | with_reducible refine hp_drewN ?_ | with_reducible refine hp_alloc ?_)), rfl, ?_, ?_⟩
        · rw [unhide hl]; rfl
        · (repeat (first | with_reducible exact GN.refl _ | with_reducible assumption | (with_reducible refine GN.set ?_ ?_ _ _; rotate_left; · simp) | with_reducible refine GN.alloc ?_ _ | with_reducible refine GN.drewN ?_ _))
      · have n0 := ne_b (show ((f : Nat) : Int) ≠ 0 by omega)
        have z4 : (4 : Int) ≤ f := by omega
        have hl := hide (show regK f 1 rd r1 r2 true = regX ((23 + f : Nat) : Int) rd r1 r2 true from by simp [regK, f4])
        go_wp2_with (first | (go_at_call 15; refine (rd_any _ (by assumption) _).mono ?_; rintro _ _ ⟨rfl, m_, rfl⟩) | (go_at_call 18; refine (f3_any _ (by assumption) _).mono ?_; rintro _ _ ⟨rfl, m_, rfl⟩) | (go_at_call 19; refine (rs1_any _ (by assumption) _).mono ?_; rintro _ _ ⟨rfl, m_, rfl⟩) | (go_at_call 22; refine (rs2_any _ (by assumption) _).mono ?_; rintro _ _ ⟨rfl, m_, rfl⟩) | (go_at_call 36; refine (f7_any _ (by assumption) _).mono ?_; rintro _ _ ⟨rfl, m_, rfl⟩) | (go_at_call 35; refine (sums_any _).mono ?_; rintro _ _ ⟨rfl, o_, rfl⟩) | (go_at_call 37; refine (products_any _).mono ?_; rintro _ _ ⟨rfl, o_, rfl⟩))
        refine fin25 4 rfl rfl rfl ⟨_, by (repeat (first | with_reducible assumption | with_reducible apply hp_row12 | (with_reducible refine hp_last ?_; · simp) | (with_reducible refine hp_set ?_ ?_; · simp) | with_reducible refine hp_drewN ?_ | with_reducible refine hp_alloc ?_)), rfl, ?_, ?_⟩
        · rw [unhide hl]; rfl
        · (repeat (first | with_reducible exact GN.refl _ | with_reducible assumption | (with_reducible refine GN.set ?_ ?_ _ _; rotate_left; · simp) | with_reducible refine GN.alloc ?_ _ | with_reducible refine GN.drewN ?_ _))
      · have n0 := ne_b (show ((f : Nat) : Int) ≠ 0 by omega)
        have z4 : ¬ (4 : Int) ≤ f := by omega
        have hl := hide (show regK f 1 rd r1 r2 true = zero from by simp [regK, f0, f4])
        go_wp2_with (first | (go_at_call 15; refine (rd_any _ (by assumption) _).mono ?_; rintro _ _ ⟨rfl, m_, rfl⟩) | (go_at_call 18; refine (f3_any _ (by assumption) _).mono ?_; rintro _ _ ⟨rfl, m_, rfl⟩) | (go_at_call 19; refine (rs1_any _ (by assumption) _).mono ?_; rintro _ _ ⟨rfl, m_, rfl⟩) | (go_at_call 22; refine (rs2_any _ (by assumption) _).mono ?_; rintro _ _ ⟨rfl, m_, rfl⟩) | (go_at_call 36; refine (f7_any _ (by assumption) _).mono ?_; rintro _ _ ⟨rfl, m_, rfl⟩) | (go_at_call 35; refine (sums_any _).mono ?_; rintro _ _ ⟨rfl, o_, rfl⟩) | (go_at_call 37; refine (products_any _).mono ?_; rintro _ _ ⟨rfl, o_, rfl⟩))
        refine fin25 4 rfl rfl rfl ⟨_, by (repeat (first | with_reducible assumption | with_reducible apply hp_row12 | (with_reducible refine hp_last ?_; · simp) | (with_reducible refine hp_set ?_ ?_; · simp) | with_reducible refine hp_drewN ?_ | with_reducible refine hp_alloc ?_)), rfl, ?_, ?_⟩
        · rw [unhide hl]; rfl
        · (repeat (first | with_reducible exact GN.refl _ | with_reducible assumption | (with_reducible refine GN.set ?_ ?_ _ _; rotate_left; · simp) | with_reducible refine GN.alloc ?_ _ | with_reducible refine GN.drewN ?_ _))
  · have hc : f = 0 ∨ f = 5 ∨ (f ≠ 0 ∧ f ≠ 5) := by omega
    rcases hc with rfl | rfl | ⟨f0, f5⟩
    · clear hf8 i1 i2
      have hl := hide (show regK 0 32 rd r1 r2 short = regX 14 rd r1 r2 short from by simp [regK])
      go_wp2_with (first | (go_at_call 15; refine (rd_any _ (by assumption) _).mono ?_; rintro _ _ ⟨rfl, m_, rfl⟩) | (go_at_call 18; refine (f3_any _ (by assumption) _).mono ?_; rintro _ _ ⟨rfl, m_, rfl⟩) | (go_at_call 19; refine (rs1_any _ (by assumption) _).mono ?_; rintro _ _ ⟨rfl, m_, rfl⟩) | (go_at_call 22; refine (rs2_any _ (by assumption) _).mono ?_; rintro _ _ ⟨rfl, m_, rfl⟩) | (go_at_call 36; refine (f7_any _ (by assumption) _).mono ?_; rintro _ _ ⟨rfl, m_, rfl⟩) | (go_at_call 35; refine (sums_any _).mono ?_; rintro _ _ ⟨rfl, o_, rfl⟩) | (go_at_call 37; refine (products_any _).mono ?_; rintro _ _ ⟨rfl, o_, rfl⟩))
      refine fin25 4 rfl rfl rfl ⟨_, by (repeat (first | with_reducible assumption | with_reducible apply hp_row12 | (with_reducible refine hp_last ?_; · simp) | (with_reducible refine hp_set ?_ ?_; · simp) | with_reducible refine hp_drewN ?_ | with_reducible refine hp_alloc ?_)), rfl, ?_, ?_⟩
      · rw [unhide hl]; rfl
      · (repeat (first | with_reducible exact GN.refl _ | with_reducible assumption | (with_reducible refine GN.set ?_ ?_ _ _; rotate_left; · simp) | with_reducible refine GN.alloc ?_ _ | with_reducible refine GN.drewN ?_ _))
    · clear hf8 i1 i2
      have hl := hide (show regK 5 32 rd r1 r2 short = regX 20 rd r1 r2 short from by simp [regK])
      go_wp2_with (first | (go_at_call 15; refine (rd_any _ (by assumption) _).mono ?_; rintro _ _ ⟨rfl, m_, rfl⟩) | (go_at_call 18; refine (f3_any _ (by assumption) _).mono ?_; rintro _ _ ⟨rfl, m_, rfl⟩) | (go_at_call 19; refine (rs1_any _ (by assumption) _).mono ?_; rintro _ _ ⟨rfl, m_, rfl⟩) | (go_at_call 22; refine (rs2_any _ (by assumption) _).mono ?_; rintro _ _ ⟨rfl, m_, rfl⟩) | (go_at_call 36; refine (f7_any _ (by assumption) _).mono ?_; rintro _ _ ⟨rfl, m_, rfl⟩) | (go_at_call 35; refine (sums_any _).mono ?_; rintro _ _ ⟨rfl, o_, rfl⟩) | (go_at_call 37; refine (products_any _).mono ?_; rintro _ _ ⟨rfl, o_, rfl⟩))
      refine fin25 4 rfl rfl rfl ⟨_, by (repeat (first | with_reducible assumption | with_reducible apply hp_row12 | (with_reducible refine hp_last ?_; · simp) | (with_reducible refine hp_set ?_ ?_; · simp) | with_reducible refine hp_drewN ?_ | with_reducible refine hp_alloc ?_)), rfl, ?_, ?_⟩
      · rw [unhide hl]; rfl
      · (repeat (first | with_reducible exact GN.refl _ | with_reducible assumption | (with_reducible refine GN.set ?_ ?_ _ _; rotate_left; · simp) | with_reducible refine GN.alloc ?_ _ | with_reducible refine GN.drewN ?_ _))
    · have n0 := ne_b (show ((f : Nat) : Int) ≠ 0 by omega)
      have n5 := ne_b (show ((f : Nat) : Int) ≠ 5 by omega)
      have hl := hide (show regK f 32 rd r1 r2 short = zero from by simp [regK, f0, f5])
      go_wp2_with (first | (go_at_call 15; refine (rd_any _ (by assumption) _).mono ?_; rintro _ _ ⟨rfl, m_, rfl⟩) | (go_at_call 18; refine (f3_any _ (by assumption) _).mono ?_; rintro _ _ ⟨rfl, m_, rfl⟩) | (go_at_call 19; refine (rs1_any _ (by assumption) _).mono ?_; rintro _ _ ⟨rfl, m_, rfl⟩) | (go_at_call 22; refine (rs2_any _ (by assumption) _).mono ?_; rintro _ _ ⟨rfl, m_, rfl⟩) | (go_at_call 36; refine (f7_any _ (by assumption) _).mono ?_; rintro _ _ ⟨rfl, m_, rfl⟩) | (go_at_call 35; refine (sums_any _).mono ?_; rintro _ _ ⟨rfl, o_, rfl⟩) | (go_at_call 37; refine (products_any _).mono ?_; rintro _ _ ⟨rfl, o_, rfl⟩))
      refine fin25 4 rfl rfl rfl ⟨_, by (repeat (first | with_reducible assumption | with_reducible apply hp_row12 | (with_reducible refine hp_last ?_; · simp) | (with_reducible refine hp_set ?_ ?_; · simp) | with_reducible refine hp_drewN ?_ | with_reducible refine hp_alloc ?_)), rfl, ?_, ?_⟩
      · rw [unhide hl]; rfl
      · (repeat (first | with_reducible exact GN.refl _ | with_reducible assumption | (with_reducible refine GN.set ?_ ?_ _ _; rotate_left; · simp) | with_reducible refine GN.alloc ?_ _ | with_reducible refine GN.drewN ?_ _))
  · have ng0 := ne_b (show ((g : Nat) : Int) ≠ 0 by omega)
    have ng1 := ne_b (show ((g : Nat) : Int) ≠ 1 by omega)
    have ng32 := ne_b (show ((g : Nat) : Int) ≠ 32 by omega)
    have hl := hide (show regK f g rd r1 r2 short = zero from by simp [regK, g0, g1, g2])
    go_wp2_with (first | (go_at_call 15; refine (rd_any _ (by assumption) _).mono ?_; rintro _ _ ⟨rfl, m_, rfl⟩) | (go_at_call 18; refine (f3_any _ (by assumption) _).mono ?_; rintro _ _ ⟨rfl, m_, rfl⟩) | (go_at_call 19; refine (rs1_any _ (by assumption) _).mono ?_; rintro _ _ ⟨rfl, m_, rfl⟩) | (go_at_call 22; refine (rs2_any _ (by assumption) _).mono ?_; rintro _ _ ⟨rfl, m_, rfl⟩) | (go_at_call 36; refine (f7_any _ (by assumption) _).mono ?_; rintro _ _ ⟨rfl, m_, rfl⟩) | (go_at_call 35; refine (sums_any _).mono ?_; rintro _ _ ⟨rfl, o_, rfl⟩) | (go_at_call 37; refine (products_any _).mono ?_; rintro _ _ ⟨rfl, o_, rfl⟩))
    refine fin25 4 rfl rfl rfl ⟨_, by (repeat (first | with_reducible assumption | with_reducible apply hp_row12 | (with_reducible refine hp_last ?_; · simp) | (with_reducible refine hp_set ?_ ?_; · simp) | with_reducible refine hp_drewN ?_ | with_reducible refine hp_alloc ?_)), rfl, ?_, ?_⟩
    · rw [unhide hl]; rfl
    · (repeat (first | with_reducible exact GN.refl _ | with_reducible assumption | (with_reducible refine GN.set ?_ ?_ _ _; rotate_left; · simp) | with_reducible refine GN.alloc ?_ _ | with_reducible refine GN.drewN ?_ _))
end Go.Proofs.Ytopbdiekfhikmaa
