/- Layer 4: short loads and stores: the walk. -/
import Derived.Test.YtaemkfcdhgpdnaaDoorS8
namespace Go.Proofs.YtaemkfcdhgpdnaaDoor
open Go.RowKit

theorem regs_all (i : Nat) (hi : i < 16384) (k x : Nat) (hk : 4 * i / 8192 = k) (hx : exN (4 * i) = x) (h0 : k ≠ 0) (h4 : k ≠ 4) :
    (x != 0) = true ∧
    (bif Nat.blt 4 k then or32 (x / 33554432 * 32 % 4294967296) (and32 (x / 128) 31) else x / 1048576) % (bif k == 2 || k == 6 then 4 else 8) = 0 ∧
    (bif Nat.blt 4 k then or32 (x / 33554432 * 32 % 4294967296) (and32 (x / 128) 31) else x / 1048576) < 32 * (bif k == 2 || k == 6 then 4 else 8) ∧
    and32 (x / 32768) 31 = and16 (4 * i / 128) 7 + 8 ∧
    (bif Nat.blt 4 k then and32 (x / 1048576) 31 else and32 (x / 128) 31) = and16 (4 * i / 4) 7 + 8 := by
  have e := regs_ok i hi
  unfold okC at e
  simp only [hk, hx] at e
  rw [beq_eq_false_iff_ne.2 h0, beq_eq_false_iff_ne.2 h4, Bool.false_or, Bool.false_or] at e
  simp only [Bool.and_eq_true] at e
  obtain ⟨⟨⟨⟨e1, e2⟩, e3⟩, e4⟩, e5⟩ := e
  exact ⟨e1, eq_of_beq e2, Nat.blt_eq.mp e3, eq_of_beq e4, eq_of_beq e5⟩
theorem and16_7 (a : Nat) : and16 a 7 < 8 := by
  unfold and16
  have : a &&& 7 ≤ 7 := Nat.and_le_right
  omega
set_option maxRecDepth 100000 in
set_option maxHeartbeats 2000000 in
theorem regs_walk {w0 : World} (hT : Tab w0) (h : Nat) (hh : h < 65536) (w : World) (hg : GN w0 w) : Calls Tryd.prog 6 #[.int .u16 h] w fun e w' => e = .returned (.bool true) ∧ GN w0 w' := by
  have en : bits .andNot .u16 (h : Int) 3 = ((4 * (h / 4) : Nat) : Int) := by
    rw [u16_andNot _ _ (by omega) (by omega) (by decide) (by decide)]
    have e1 : (h &&& 3) + (h &&& 65532) = h := by
      have a1 : h &&& 3 = h % 4 := Nat.and_two_pow_sub_one_eq_mod h 2
      have a2 : h &&& 65532 = h / 4 * 4 := nat_and_high 2 14 h hh
      omega
    have a1 : h &&& 3 = h % 4 := Nat.and_two_pow_sub_one_eq_mod h 2
    show ((h &&& 65532 : Nat) : Int) = _
    omega
  obtain ⟨i, hi⟩ : ∃ i, h / 4 = i := ⟨_, rfl⟩
  rw [hi] at en
  have hi2 : i < 16384 := by omega
  clear hi
  obtain ⟨g, hg4⟩ : ∃ g, 4 * i = g := ⟨_, rfl⟩
  obtain ⟨k, hk⟩ : ∃ k, 4 * i / 8192 = k := ⟨_, rfl⟩
  obtain ⟨x, hx⟩ : ∃ x, exN (4 * i) = x := ⟨_, rfl⟩
  have hR := regs_all i hi2 k x hk hx
  rw [hg4] at en hk hx hR
  have hgl : g < 65536 := by omega
  have hk7 : k < 8 := by omega
  have hki : (g : Int) / 8192 = (k : Int) := by omega
  clear hg4 hk
  have Hx := hide hx
  clear hx
  have q1 : bits .and .u32 ((x : Int) / 128) 31 = ((and32 (x / 128) 31 : Nat) : Int) := by rw [and32_cast, Int.natCast_ediv]; rfl
  have q2 : bits .and .u32 ((x : Int) / 1048576) 31 = ((and32 (x / 1048576) 31 : Nat) : Int) := by rw [and32_cast, Int.natCast_ediv]; rfl
  have q3 : bits .and .u32 ((x : Int) / 32768) 31 = ((and32 (x / 32768) 31 : Nat) : Int) := by rw [and32_cast, Int.natCast_ediv]; rfl
  have q4 : bits .or .u32 ((x : Int) / 33554432 * 32 % 4294967296) ((and32 (x / 128) 31 : Nat) : Int) = ((or32 (x / 33554432 * 32 % 4294967296) (and32 (x / 128) 31) : Nat) : Int) := by rw [or32_cast, Int.natCast_emod, Int.natCast_mul, Int.natCast_ediv]; rfl
  have q5 : bits .and .u16 ((g : Int) / 128) 7 = ((and16 (g / 128) 7 : Nat) : Int) := by rw [and16_cast, Int.natCast_ediv]; rfl
  have q6 : bits .and .u16 ((g : Int) / 4) 7 = ((and16 (g / 4) 7 : Nat) : Int) := by rw [and16_cast, Int.natCast_ediv]; rfl
  have q7 : (x : Int) / 1048576 = ((x / 1048576 : Nat) : Int) := by omega
  have b1 := and16_7 (g / 128)
  have b2 := and16_7 (g / 4)
  generalize and16 (g / 128) 7 = r1 at *
  generalize and16 (g / 4) 7 = r2 at *
  generalize or32 (x / 33554432 * 32 % 4294967296) (and32 (x / 128) 31) = im at *
  generalize and32 (x / 128) 31 = v1 at *
  generalize and32 (x / 1048576) 31 = v2 at *
  generalize and32 (x / 32768) 31 = v3 at *
  generalize x / 1048576 = v4 at *
  rw [q7] at q2
  have hk8 : k = 0 ∨ k = 1 ∨ k = 2 ∨ k = 3 ∨ k = 4 ∨ k = 5 ∨ k = 6 ∨ k = 7 := by omega
  clear hk7
  go_enter Tryd.func6, Tryd.ntmps6
  rcases hk8 with rfl | rfl | rfl | rfl | rfl | rfl | rfl | rfl
  · clear hR q1 q2 q3 q4 q5 q6 q7 b1 b2
    go_wp2_with (go_at_call 9; refine (fixed_any hT _ hg).mono ?_; rintro _ _ ⟨rfl, hg⟩)
    go_ret
    exact ⟨rfl, hg⟩
  · obtain ⟨e1, e2, e3, e4, e5⟩ := hR (by decide) (by decide)
    replace e2 : v4 % 8 = 0 := e2
    replace e3 : v4 < 256 := e3
    replace e5 : v1 = r2 + 8 := e5
    have f3 : (r1 : Int) % 65536 = r1 := by omega
    have c1 : (((v4 : Nat) : Int) % 8 == 0) = true := by rw [show ((v4 : Nat) : Int) % 8 = 0 by omega]; rfl
    have c2 : decide (((v4 : Nat) : Int) < 256) = true := decide_eq_true (by omega)
    have c3 : decide ((8 : Int) ≤ ((v3 : Nat) : Int)) = true := decide_eq_true (by omega)
    have c4 : decide (((v3 : Nat) : Int) < 16) = true := decide_eq_true (by omega)
    have c5 : decide ((8 : Int) ≤ ((v1 : Nat) : Int)) = true := decide_eq_true (by omega)
    have c6 : decide (((v1 : Nat) : Int) < 16) = true := decide_eq_true (by omega)
    have c7 : (((v3 : Nat) : Int) == (r1 : Int) + 8) = true := by rw [show ((v3 : Nat) : Int) = (r1 : Int) + 8 by omega]; exact beq_self_eq_true _
    have c8 : (((v1 : Nat) : Int) == (r2 : Int) + 8) = true := by rw [show ((v1 : Nat) : Int) = (r2 : Int) + 8 by omega]; exact beq_self_eq_true _
    clear hR e2 e3 e4 e5
    go_wp2_with (first | (go_at_call 9; refine (fixed_any hT _ hg).mono ?_; rintro _ _ ⟨rfl, hg⟩) | (go_at_call 7; refine (expand_any hT _ hgl _ hg).mono ?_; rw [unhide Hx, e1]; rintro _ _ ⟨rfl, hg⟩))
    go_ret
    exact ⟨rfl, hg⟩
  · obtain ⟨e1, e2, e3, e4, e5⟩ := hR (by decide) (by decide)
    replace e2 : v4 % 4 = 0 := e2
    replace e3 : v4 < 128 := e3
    replace e5 : v1 = r2 + 8 := e5
    have f3 : (r1 : Int) % 65536 = r1 := by omega
    have c1 : (((v4 : Nat) : Int) % 4 == 0) = true := by rw [show ((v4 : Nat) : Int) % 4 = 0 by omega]; rfl
    have c2 : decide (((v4 : Nat) : Int) < 128) = true := decide_eq_true (by omega)
    have c3 : decide ((8 : Int) ≤ ((v3 : Nat) : Int)) = true := decide_eq_true (by omega)
    have c4 : decide (((v3 : Nat) : Int) < 16) = true := decide_eq_true (by omega)
    have c5 : decide ((8 : Int) ≤ ((v1 : Nat) : Int)) = true := decide_eq_true (by omega)
    have c6 : decide (((v1 : Nat) : Int) < 16) = true := decide_eq_true (by omega)
    have c7 : (((v3 : Nat) : Int) == (r1 : Int) + 8) = true := by rw [show ((v3 : Nat) : Int) = (r1 : Int) + 8 by omega]; exact beq_self_eq_true _
    have c8 : (((v1 : Nat) : Int) == (r2 : Int) + 8) = true := by rw [show ((v1 : Nat) : Int) = (r2 : Int) + 8 by omega]; exact beq_self_eq_true _
    clear hR e2 e3 e4 e5
    go_wp2_with (first | (go_at_call 9; refine (fixed_any hT _ hg).mono ?_; rintro _ _ ⟨rfl, hg⟩) | (go_at_call 7; refine (expand_any hT _ hgl _ hg).mono ?_; rw [unhide Hx, e1]; rintro _ _ ⟨rfl, hg⟩))
    go_ret
    exact ⟨rfl, hg⟩
  · obtain ⟨e1, e2, e3, e4, e5⟩ := hR (by decide) (by decide)
    replace e2 : v4 % 8 = 0 := e2
    replace e3 : v4 < 256 := e3
    replace e5 : v1 = r2 + 8 := e5
    have f3 : (r1 : Int) % 65536 = r1 := by omega
    have c1 : (((v4 : Nat) : Int) % 8 == 0) = true := by rw [show ((v4 : Nat) : Int) % 8 = 0 by omega]; rfl
    have c2 : decide (((v4 : Nat) : Int) < 256) = true := decide_eq_true (by omega)
    have c3 : decide ((8 : Int) ≤ ((v3 : Nat) : Int)) = true := decide_eq_true (by omega)
    have c4 : decide (((v3 : Nat) : Int) < 16) = true := decide_eq_true (by omega)
    have c5 : decide ((8 : Int) ≤ ((v1 : Nat) : Int)) = true := decide_eq_true (by omega)
    have c6 : decide (((v1 : Nat) : Int) < 16) = true := decide_eq_true (by omega)
    have c7 : (((v3 : Nat) : Int) == (r1 : Int) + 8) = true := by rw [show ((v3 : Nat) : Int) = (r1 : Int) + 8 by omega]; exact beq_self_eq_true _
    have c8 : (((v1 : Nat) : Int) == (r2 : Int) + 8) = true := by rw [show ((v1 : Nat) : Int) = (r2 : Int) + 8 by omega]; exact beq_self_eq_true _
    clear hR e2 e3 e4 e5
    go_wp2_with (first | (go_at_call 9; refine (fixed_any hT _ hg).mono ?_; rintro _ _ ⟨rfl, hg⟩) | (go_at_call 7; refine (expand_any hT _ hgl _ hg).mono ?_; rw [unhide Hx, e1]; rintro _ _ ⟨rfl, hg⟩))
    go_ret
    exact ⟨rfl, hg⟩
  · clear hR q1 q2 q3 q4 q5 q6 q7 b1 b2
    go_wp2_with (go_at_call 9; refine (fixed_any hT _ hg).mono ?_; rintro _ _ ⟨rfl, hg⟩)
    go_ret
    exact ⟨rfl, hg⟩
  · obtain ⟨e1, e2, e3, e4, e5⟩ := hR (by decide) (by decide)
    replace e2 : im % 8 = 0 := e2
    replace e3 : im < 256 := e3
    replace e5 : v2 = r2 + 8 := e5
    have f3 : (r1 : Int) % 65536 = r1 := by omega
    have c1 : (((im : Nat) : Int) % 8 == 0) = true := by rw [show ((im : Nat) : Int) % 8 = 0 by omega]; rfl
    have c2 : decide (((im : Nat) : Int) < 256) = true := decide_eq_true (by omega)
    have c3 : decide ((8 : Int) ≤ ((v3 : Nat) : Int)) = true := decide_eq_true (by omega)
    have c4 : decide (((v3 : Nat) : Int) < 16) = true := decide_eq_true (by omega)
    have c5 : decide ((8 : Int) ≤ ((v2 : Nat) : Int)) = true := decide_eq_true (by omega)
    have c6 : decide (((v2 : Nat) : Int) < 16) = true := decide_eq_true (by omega)
    have c7 : (((v3 : Nat) : Int) == (r1 : Int) + 8) = true := by rw [show ((v3 : Nat) : Int) = (r1 : Int) + 8 by omega]; exact beq_self_eq_true _
    have c8 : (((v2 : Nat) : Int) == (r2 : Int) + 8) = true := by rw [show ((v2 : Nat) : Int) = (r2 : Int) + 8 by omega]; exact beq_self_eq_true _
    clear hR e2 e3 e4 e5
    go_wp2_with (first | (go_at_call 9; refine (fixed_any hT _ hg).mono ?_; rintro _ _ ⟨rfl, hg⟩) | (go_at_call 7; refine (expand_any hT _ hgl _ hg).mono ?_; rw [unhide Hx, e1]; rintro _ _ ⟨rfl, hg⟩))
    go_ret
    exact ⟨rfl, hg⟩
  · obtain ⟨e1, e2, e3, e4, e5⟩ := hR (by decide) (by decide)
    replace e2 : im % 4 = 0 := e2
    replace e3 : im < 128 := e3
    replace e5 : v2 = r2 + 8 := e5
    have f3 : (r1 : Int) % 65536 = r1 := by omega
    have c1 : (((im : Nat) : Int) % 4 == 0) = true := by rw [show ((im : Nat) : Int) % 4 = 0 by omega]; rfl
    have c2 : decide (((im : Nat) : Int) < 128) = true := decide_eq_true (by omega)
    have c3 : decide ((8 : Int) ≤ ((v3 : Nat) : Int)) = true := decide_eq_true (by omega)
    have c4 : decide (((v3 : Nat) : Int) < 16) = true := decide_eq_true (by omega)
    have c5 : decide ((8 : Int) ≤ ((v2 : Nat) : Int)) = true := decide_eq_true (by omega)
    have c6 : decide (((v2 : Nat) : Int) < 16) = true := decide_eq_true (by omega)
    have c7 : (((v3 : Nat) : Int) == (r1 : Int) + 8) = true := by rw [show ((v3 : Nat) : Int) = (r1 : Int) + 8 by omega]; exact beq_self_eq_true _
    have c8 : (((v2 : Nat) : Int) == (r2 : Int) + 8) = true := by rw [show ((v2 : Nat) : Int) = (r2 : Int) + 8 by omega]; exact beq_self_eq_true _
    clear hR e2 e3 e4 e5
    go_wp2_with (first | (go_at_call 9; refine (fixed_any hT _ hg).mono ?_; rintro _ _ ⟨rfl, hg⟩) | (go_at_call 7; refine (expand_any hT _ hgl _ hg).mono ?_; rw [unhide Hx, e1]; rintro _ _ ⟨rfl, hg⟩))
    go_ret
    exact ⟨rfl, hg⟩
  · obtain ⟨e1, e2, e3, e4, e5⟩ := hR (by decide) (by decide)
    replace e2 : im % 8 = 0 := e2
    replace e3 : im < 256 := e3
    replace e5 : v2 = r2 + 8 := e5
    have f3 : (r1 : Int) % 65536 = r1 := by omega
    have c1 : (((im : Nat) : Int) % 8 == 0) = true := by rw [show ((im : Nat) : Int) % 8 = 0 by omega]; rfl
    have c2 : decide (((im : Nat) : Int) < 256) = true := decide_eq_true (by omega)
    have c3 : decide ((8 : Int) ≤ ((v3 : Nat) : Int)) = true := decide_eq_true (by omega)
    have c4 : decide (((v3 : Nat) : Int) < 16) = true := decide_eq_true (by omega)
    have c5 : decide ((8 : Int) ≤ ((v2 : Nat) : Int)) = true := decide_eq_true (by omega)
    have c6 : decide (((v2 : Nat) : Int) < 16) = true := decide_eq_true (by omega)
    have c7 : (((v3 : Nat) : Int) == (r1 : Int) + 8) = true := by rw [show ((v3 : Nat) : Int) = (r1 : Int) + 8 by omega]; exact beq_self_eq_true _
    have c8 : (((v2 : Nat) : Int) == (r2 : Int) + 8) = true := by rw [show ((v2 : Nat) : Int) = (r2 : Int) + 8 by omega]; exact beq_self_eq_true _
    clear hR e2 e3 e4 e5
    go_wp2_with (first | (go_at_call 9; refine (fixed_any hT _ hg).mono ?_; rintro _ _ ⟨rfl, hg⟩) | (go_at_call 7; refine (expand_any hT _ hgl _ hg).mono ?_; rw [unhide Hx, e1]; rintro _ _ ⟨rfl, hg⟩))
    go_ret
    exact ⟨rfl, hg⟩
end Go.Proofs.YtaemkfcdhgpdnaaDoor
