/- Layer 4: there and back; short loads and stores: the walks. -/
import Derived.Test.YtaemkfcdhgpdnaaDoorS7
namespace Go.Proofs.YtaemkfcdhgpdnaaDoor
open Go.RowKit

theorem exN_hit {x n : Nat} (h : hit x n = true) : exN n = x ∧ (x != 0) = true := by
  unfold hit at h
  rw [Bool.and_eq_true] at h
  have := eq_of_beq h.2
  exact ⟨this, by rw [← this]; exact h.1⟩
set_option maxRecDepth 100000 in
set_option maxHeartbeats 2000000 in
theorem back_walk {w0 : World} (hT : Tab w0) (h x : Nat) (hh : h < 65536) (w : World) (hg : GN w0 w) : Calls Tryd.prog 5 #[.int .u16 h, .int .u32 x] w fun e w' => e = .returned (.bool true) ∧ GN w0 w' := by
  have hA := ex_low h hh
  have hS := short_of h
  obtain ⟨y, hy⟩ : ∃ y, exN h = y := ⟨_, rfl⟩
  rw [hy] at hA hS
  have Hy := hide hy
  clear hy
  go_enter Tryd.func5, Tryd.ntmps5
  go_wp2_with fail
  refine (expand_any hT h hh _ hg).mono ?_
  rw [unhide Hy]
  rintro _ w1 ⟨rfl, hg⟩
  cases hz : y != 0 with
  | true =>
    have hy0 : y ≠ 0 := bne_iff_ne.1 hz
    have hy3 := hA.resolve_left hy0
    have hs2 := hS hy0
    have hs1 : (and16 (y % 65536) 3 != 3) = false := by rw [low16 y hy3]; rfl
    obtain ⟨y16, hy16⟩ : ∃ n, y % 65536 = n := ⟨_, rfl⟩
    rw [hy16] at hs1
    have hym : IntKind.u16.wrap (y : Int) = (y16 : Int) := by rw [IntKind.wrap_u16]; omega
    clear hy16
    have hyi : ((y : Int) != 0) = true := by have := natBNe y 0; rw [hz] at this; exact this
    clear hA hS
    go_wp2_with fail
    refine (shrink_any hT x _ hg).mono ?_
    rintro e w3 ⟨he, hg⟩
    rcases he with ⟨n, hn, _, hit1, _, rfl⟩ | ⟨_, rfl⟩
    · have hx := exN_hit hit1
      have Hn := hide hx.1
      have Hx0 := hide hx.2
      have hxi : ((x : Int) != 0) = true := by have := natBNe x 0; rw [hx.2] at this; exact this
      clear hx hit1
      go_wp2_with (first
        | (go_at_call 9; refine (fixed_any hT _ hg).mono ?_; rintro _ _ ⟨rfl, hg⟩)
        | (go_at_call 12; refine (shrink_any hT _ _ hg).mono ?_; rintro _ _ ⟨he2, hg⟩; obtain ⟨l, hlh, hly, hl, rfl⟩ := shr_of hh (unhide Hy) hy0 hy3 he2; have Hly := hide hly; clear hly he2)
        | (go_at_call 7; refine (expand_any hT _ (by assumption) _ hg).mono ?_; (first | rw [unhide Hly, hz] | rw [unhide Hn, unhide Hx0]); rintro _ _ ⟨rfl, hg⟩)
        | (go_at_call 10; refine (short_any _ _).mono ?_; (first | rw [hs1] | rw [hs2]); rintro _ _ ⟨rfl, hq⟩; replace hg := GN.trans hg hq; clear hq))
      go_ret
      exact ⟨rfl, hg⟩
    · go_wp2_with (first
        | (go_at_call 9; refine (fixed_any hT _ hg).mono ?_; rintro _ _ ⟨rfl, hg⟩)
        | (go_at_call 12; refine (shrink_any hT _ _ hg).mono ?_; rintro _ _ ⟨he2, hg⟩; obtain ⟨l, hlh, hly, hl, rfl⟩ := shr_of hh (unhide Hy) hy0 hy3 he2; have Hly := hide hly; clear hly he2)
        | (go_at_call 7; refine (expand_any hT _ (by assumption) _ hg).mono ?_; (first | rw [unhide Hly, hz] | rw [unhide Hn, unhide Hx0]); rintro _ _ ⟨rfl, hg⟩)
        | (go_at_call 10; refine (short_any _ _).mono ?_; (first | rw [hs1] | rw [hs2]); rintro _ _ ⟨rfl, hq⟩; replace hg := GN.trans hg hq; clear hq))
      go_ret
      exact ⟨rfl, hg⟩
  | false =>
    have hy0 : y = 0 := by simpa using hz
    have hyi : ((y : Int) != 0) = false := by rw [hy0]; rfl
    clear hA hS
    go_wp2_with fail
    refine (shrink_any hT x _ hg).mono ?_
    rintro e w3 ⟨he, hg⟩
    rcases he with ⟨n, hn, _, hit1, _, rfl⟩ | ⟨_, rfl⟩
    · have hx := exN_hit hit1
      have Hn := hide hx.1
      have Hx0 := hide hx.2
      have hxi : ((x : Int) != 0) = true := by have := natBNe x 0; rw [hx.2] at this; exact this
      clear hx hit1
      go_wp2_with (first | (go_at_call 9; refine (fixed_any hT _ hg).mono ?_; rintro _ _ ⟨rfl, hg⟩) | (go_at_call 7; refine (expand_any hT _ (by assumption) _ hg).mono ?_; rw [unhide Hn, unhide Hx0]; rintro _ _ ⟨rfl, hg⟩))
      go_ret
      exact ⟨rfl, hg⟩
    · go_wp2_with (first | (go_at_call 9; refine (fixed_any hT _ hg).mono ?_; rintro _ _ ⟨rfl, hg⟩) | (go_at_call 7; refine (expand_any hT _ (by assumption) _ hg).mono ?_; rw [unhide Hn, unhide Hx0]; rintro _ _ ⟨rfl, hg⟩))
      go_ret
      exact ⟨rfl, hg⟩
end Go.Proofs.YtaemkfcdhgpdnaaDoor
