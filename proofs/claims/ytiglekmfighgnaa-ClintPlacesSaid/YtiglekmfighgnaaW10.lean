/- The law of the places. -/
import Derived.Test.YtiglekmfighgnaaW9
namespace Go.Proofs.Ytiglekmfighgnaa
open Go.RowKit

set_option maxHeartbeats 2000000 in
theorem places_walk (at_ size v time alarm : Int) (hv0 : 0 ≤ v) (hv1 : v < 18446744073709551616) (ht0 : 0 ≤ time) (ht1 : time < 18446744073709551616) (ha0 : 0 ≤ alarm) (ha1 : alarm < 18446744073709551616) (w : World) :
    Calls Try.prog 6 #[.int .u64 at_, .int .i64 size, .int .u64 v, .int .u64 time, .int .u64 alarm] w fun e w' => e = .returned (.bool true) ∧ Below w.heap.size w w' := by
  have d1 : time % 18446744073709551616 = time := by omega
  have d2 : alarm % 18446744073709551616 = alarm := by omega
  have d3 : v % 18446744073709551616 = v := by omega
  have d4 : (v % 4294967296 * 4294967296 + alarm % 4294967296) / 4294967296 % 4294967296 = v % 4294967296 := by omega
  have d5 : (v % 4294967296 * 4294967296 + time % 4294967296) / 4294967296 % 4294967296 = v % 4294967296 := by omega
  have e1 := u64_mask32 v hv0 hv1
  have e2 := u64_mask1 v hv0 hv1
  rcases look_cases at_ size with ⟨rfl, rfl, hl⟩ | ⟨rfl, rfl, hl⟩ | ⟨rfl, rfl, hl⟩ | ⟨rfl, rfl, hl⟩ | ⟨rfl, rfl, hl⟩ | ⟨rfl, rfl, hl⟩ | ⟨rfl, rfl, hl⟩ | hl
  case inr.inr.inr.inr.inr.inr.inr =>
    have hr : ∀ s t a, readC at_ size s t a = (0, false) := fun s t a => by simp only [readC, hl]
    have hp : ∀ k x, putAt k at_ size v x = x := fun k x => by simp only [putAt, hl]
    have hn : (look at_ size).isSome = false := by rw [hl]; rfl
    have hx : ∀ a s, look a s ≠ none → ¬ (at_ = a ∧ size = s) := by rintro a s h ⟨rfl, rfl⟩; exact h hl
    by_cases h4 : size = 4
    · subst h4
      have f1 : (at_ == 0) = false := beq_eq_false_iff_ne.2 (fun h => hx 0 4 (by decide) ⟨h, rfl⟩)
      have f2 : (at_ == 16384) = false := beq_eq_false_iff_ne.2 (fun h => hx 16384 4 (by decide) ⟨h, rfl⟩)
      have f3 : (at_ == 16388) = false := beq_eq_false_iff_ne.2 (fun h => hx 16388 4 (by decide) ⟨h, rfl⟩)
      have f4 : (at_ == 49144) = false := beq_eq_false_iff_ne.2 (fun h => hx 49144 4 (by decide) ⟨h, rfl⟩)
      have f5 : (at_ == 49148) = false := beq_eq_false_iff_ne.2 (fun h => hx 49148 4 (by decide) ⟨h, rfl⟩)
      clear hx hl
      go_enter Try.func6, Try.ntmps6
      go_wp2_with (first
        | (go_at_call 8; refine (fixed_any w).mono ?_; rintro e w1 ⟨rfl, b1⟩)
        | (go_at_call 9; refine (new_st b1).mono ?_; rintro e w2 ⟨b, rfl, hst⟩)
        | (go_at_call 11; refine (write_st hst _ _ _ (by assumption) (by assumption)).mono ?_; rintro e w2 ⟨rfl, hst⟩; simp only [go_sem, hp] at hst)
        | (go_at_call 13; refine (read_st hst _ _).mono ?_; rintro e w2 ⟨rfl, hst⟩; simp only [go_sem, hr])
        | (go_at_call 21; refine (time_st hst).mono ?_; rintro e w2 ⟨rfl, rfl⟩))
      go_ret
      exact ⟨rfl, hst.below⟩
    · by_cases h8 : size = 8
      · subst h8
        have f2 : (at_ == 16384) = false := beq_eq_false_iff_ne.2 (fun h => hx 16384 8 (by decide) ⟨h, rfl⟩)
        have f4 : (at_ == 49144) = false := beq_eq_false_iff_ne.2 (fun h => hx 49144 8 (by decide) ⟨h, rfl⟩)
        clear hx hl h4
        go_enter Try.func6, Try.ntmps6
        go_wp2_with (first
          | (go_at_call 8; refine (fixed_any w).mono ?_; rintro e w1 ⟨rfl, b1⟩)
          | (go_at_call 9; refine (new_st b1).mono ?_; rintro e w2 ⟨b, rfl, hst⟩)
          | (go_at_call 11; refine (write_st hst _ _ _ (by assumption) (by assumption)).mono ?_; rintro e w2 ⟨rfl, hst⟩; simp only [go_sem, hp] at hst)
          | (go_at_call 13; refine (read_st hst _ _).mono ?_; rintro e w2 ⟨rfl, hst⟩; simp only [go_sem, hr])
          | (go_at_call 21; refine (time_st hst).mono ?_; rintro e w2 ⟨rfl, rfl⟩))
        go_ret
        exact ⟨rfl, hst.below⟩
      · have f2 : (size == 4) = false := beq_eq_false_iff_ne.2 h4
        have f4 : (size == 8) = false := beq_eq_false_iff_ne.2 h8
        clear hx hl h4 h8
        go_enter Try.func6, Try.ntmps6
        go_wp2_with (first
          | (go_at_call 8; refine (fixed_any w).mono ?_; rintro e w1 ⟨rfl, b1⟩)
          | (go_at_call 9; refine (new_st b1).mono ?_; rintro e w2 ⟨b, rfl, hst⟩)
          | (go_at_call 11; refine (write_st hst _ _ _ (by assumption) (by assumption)).mono ?_; rintro e w2 ⟨rfl, hst⟩; simp only [go_sem, hp] at hst)
          | (go_at_call 13; refine (read_st hst _ _).mono ?_; rintro e w2 ⟨rfl, hst⟩; simp only [go_sem, hr])
          | (go_at_call 21; refine (time_st hst).mono ?_; rintro e w2 ⟨rfl, rfl⟩))
        go_ret
        exact ⟨rfl, hst.below⟩
  all_goals
    clear hl
    go_enter Try.func6, Try.ntmps6
    go_wp2_with (first
      | (go_at_call 8; refine (fixed_any w).mono ?_; rintro e w1 ⟨rfl, b1⟩)
      | (go_at_call 9; refine (new_st b1).mono ?_; rintro e w2 ⟨b, rfl, hst⟩)
      | (go_at_call 11; refine (write_st hst _ _ _ (by assumption) (by assumption)).mono ?_; rintro e w2 ⟨rfl, hst⟩; simp only [go_sem] at hst)
      | (go_at_call 13; refine (read_st hst _ _).mono ?_; rintro e w2 ⟨rfl, hst⟩; simp only [go_sem])
      | (go_at_call 21; refine (time_st hst).mono ?_; rintro e w2 ⟨rfl, rfl⟩))
    go_ret
    exact ⟨rfl, hst.below⟩
end Go.Proofs.Ytiglekmfighgnaa
