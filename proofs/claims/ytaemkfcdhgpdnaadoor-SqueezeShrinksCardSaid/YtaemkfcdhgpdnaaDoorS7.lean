/- Layer 4: what the document fixes; there and back. -/
import Derived.Test.YtaemkfcdhgpdnaaDoorN1
namespace Go.Proofs.YtaemkfcdhgpdnaaDoor
open Go.RowKit

theorem sh1 : (and16 1 3 != 3) = true := by kernel_rfl
theorem sh3 : (and16 3 3 != 3) = false := by kernel_rfl
set_option maxRecDepth 100000 in
set_option maxHeartbeats 1000000 in
theorem fixed_any {w0 : World} (hT : Tab w0) (w : World) (hg : GN w0 w) : Calls Tryd.prog 9 #[] w fun e w' => e = .returned (.bool true) ∧ GN w0 w' := by
  go_enter Tryd.func9, Tryd.ntmps9
  go_wp2_with fail
  refine (expand_any hT 4417 (by omega) _ hg).mono ?_
  rw [ex_1141]
  rintro _ w1 ⟨rfl, hg⟩
  go_wp2_with fail
  refine (expand_any hT 32768 (by omega) _ hg).mono ?_
  rw [ex_8000]
  rintro _ w2 ⟨rfl, hg⟩
  go_wp2_with fail
  refine (shrink_any hT 32871 _ hg).mono ?_
  rintro e w3 ⟨he, hg⟩
  obtain rfl := shr_ret he
  go_wp2_with (first | (go_at_call 10; refine (short_any 1 _).mono ?_; rw [sh1]; rintro _ _ ⟨rfl, hq⟩; replace hg := GN.trans hg hq; clear hq) | (go_at_call 10; refine (short_any 3 _).mono ?_; rw [sh3]; rintro _ _ ⟨rfl, hq⟩; replace hg := GN.trans hg hq; clear hq))
  go_ret
  exact ⟨rfl, hg⟩
/-- What Shrink answers, told of a number that a half stands for. -/
theorem shr_of {y h : Nat} {e : Ending} (hh : h < 65536) (hy : exN h = y) (h0 : y ≠ 0) (h3 : and32 y 3 = 3) (he : Shr y e) : ∃ l, l ≤ h ∧ exN l = y ∧ l < 65536 ∧ e = .returned (.tuple #[.int .u16 (l : Nat), .bool true]) := by
  have hit1 : hit y h = true := by
    unfold hit
    rw [hy, bne_iff_ne.2 h0]
    simp
  rcases he with ⟨n, h1, _, k3, h4, rfl⟩ | ⟨h1 | h1, _⟩
  · refine ⟨n, ?_, ?_, h1, rfl⟩
    · rcases Nat.lt_or_ge h n with q | q
      · have := h4 h q
        rw [hit1] at this
        cases this
      · exact q
    · unfold hit at k3
      rw [Bool.and_eq_true] at k3
      exact eq_of_beq k3.2
  · exact absurd h3 h1
  · have := h1 h hh
    rw [hit1] at this
    cases this
theorem short_of (h : Nat) (h0 : exN h ≠ 0) : (and16 h 3 != 3) = true := by
  cases hz : and16 h 3 != 3 with
  | true => rfl
  | false =>
    have e : and16 h 3 = 3 := by simpa using hz
    exfalso
    apply h0
    unfold exN
    rw [e, condF (b := 3 == 0) rfl, condF (b := 3 == 1) rfl, condF (b := 3 == 2) rfl]
theorem low16 (y : Nat) (h : and32 y 3 = 3) : and16 (y % 65536) 3 = 3 := by
  unfold and32 at h
  unfold and16
  have e1 : y &&& 3 = y % 4 := Nat.and_two_pow_sub_one_eq_mod y 2
  have e2 : y % 65536 &&& 3 = y % 65536 % 4 := Nat.and_two_pow_sub_one_eq_mod _ 2
  rw [e1] at h
  rw [e2]
  omega
end Go.Proofs.YtaemkfcdhgpdnaaDoor
