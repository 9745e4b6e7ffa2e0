/- Read and Write of the reference's Clint. -/
import Derived.Test.YtiglekmfighgnaaW6
namespace Go.Proofs.Ytiglekmfighgnaa
open Go.RowKit

theorem whole_none (from_ at_ size : Int) (w : World) (hf : from_ = 16384 ∨ from_ = 49144) (hn : look at_ size = none) :
    Calls Try.prog 24 #[.int .u64 at_, .int .u64 from_, .int .i64 size] w fun e w' => e = .returned (.int .i64 0) ∧ w' = w := by
  have h1 : ¬ (at_ = from_ ∧ size = 8) := by rintro ⟨rfl, rfl⟩; rcases hf with rfl | rfl <;> cases hn
  have h2 : ¬ (at_ = from_ ∧ size = 4) := by rintro ⟨rfl, rfl⟩; rcases hf with rfl | rfl <;> cases hn
  have h3 : ¬ (at_ = from_ + 4 ∧ size = 4) := by rintro ⟨rfl, rfl⟩; rcases hf with rfl | rfl <;> cases hn
  clear hn
  by_cases hs8 : size = 8
  · subst hs8
    have e1 : (at_ == from_) = false := beq_eq_false_iff_ne.2 (fun h => h1 ⟨h, rfl⟩)
    clear h1 h2 h3
    rcases hf with rfl | rfl
    all_goals
      go_enter Try.func24, Try.ntmps24
      go_wp2
      all_goals (go_ret; exact ⟨rfl, rfl⟩)
  · by_cases hs4 : size = 4
    · subst hs4
      have e1 : (at_ == from_) = false := beq_eq_false_iff_ne.2 (fun h => h2 ⟨h, rfl⟩)
      have e3 : (at_ == from_ + 4) = false := beq_eq_false_iff_ne.2 (fun h => h3 ⟨h, rfl⟩)
      clear h1 h2 h3
      rcases hf with rfl | rfl
      all_goals
        simp only [Int.reduceAdd] at e3
        go_enter Try.func24, Try.ntmps24
        go_wp2
        all_goals (go_ret; exact ⟨rfl, rfl⟩)
    · have e1 : (size == 8) = false := beq_eq_false_iff_ne.2 hs8
      have e3 : (size == 4) = false := beq_eq_false_iff_ne.2 hs4
      clear h1 h2 h3 hs8 hs4
      rcases hf with rfl | rfl
      all_goals
        go_enter Try.func24, Try.ntmps24
        go_wp2
        all_goals (go_ret; exact ⟨rfl, rfl⟩)

set_option maxHeartbeats 1000000 in
theorem readR_any (at_ size s t a : Int) (b : Nat) (w : World) (hb : w.heap[b]? = some (RL s t a)) (hs : s = 0 ∨ s = 1)
    (ht0 : 0 ≤ t) (ht1 : t < 18446744073709551616) (ha0 : 0 ≤ a) (ha1 : a < 18446744073709551616) :
    Calls Try.prog 14 #[.pointer (some ⟨b, 0, none⟩), .int .u64 at_, .int .i64 size] w fun e w' => e = .returned (.tuple #[.int .u64 (readC at_ size s t a).1, .bool (readC at_ size s t a).2]) ∧ w' = w := by
  obtain ⟨c0, c1, c2, f0, f1, f2⟩ := cells3 hb
  clear hb
  rcases look_cases at_ size with ⟨rfl, rfl, hl⟩ | ⟨rfl, rfl, hl⟩ | ⟨rfl, rfl, hl⟩ | ⟨rfl, rfl, hl⟩ | ⟨rfl, rfl, hl⟩ | ⟨rfl, rfl, hl⟩ | ⟨rfl, rfl, hl⟩ | hl
  case inr.inr.inr.inr.inr.inr.inr =>
    have e0 : (at_ == 0 && size == 4) = false := by
      cases hx : (at_ == 0 && size == 4) with
      | false => rfl
      | true => simp at hx; obtain ⟨rfl, rfl⟩ := hx; cases hl
    have HL := hide hl
    have HS := hide hs
    clear hl hs
    by_cases ez : at_ = 0
    · subst ez
      have e4 : (size == 4) = false := by simpa using e0
      clear e0
      go_enter Try.func14, Try.ntmps14
      go_wp2_with (go_at_call 24; refine (whole_none _ _ _ _ (by omega) (unhide HL)).mono ?_; rintro e w1 ⟨rfl, rfl⟩)
      go_ret2
      exact ⟨ret_ib (k := .u64) (by simp only [readC, unhide HL]) (by simp only [readC, unhide HL]), rfl⟩
    · have e4 : (at_ == 0) = false := beq_eq_false_iff_ne.2 ez
      clear e0 ez
      go_enter Try.func14, Try.ntmps14
      go_wp2_with (go_at_call 24; refine (whole_none _ _ _ _ (by omega) (unhide HL)).mono ?_; rintro e w1 ⟨rfl, rfl⟩)
      go_ret2
      exact ⟨ret_ib (k := .u64) (by simp only [readC, unhide HL]) (by simp only [readC, unhide HL]), rfl⟩
  all_goals
    have HL := hide hl
    have HS := hide hs
    clear hl hs
    go_enter Try.func14, Try.ntmps14
    go_wp2
    go_ret2
    refine ⟨ret_ib (k := .u64) ?_ ?_, rfl⟩
    · simp only [readC, unhide HL]
      have := unhide HS
      simp
      try omega
    · simp only [readC, unhide HL]

set_option maxHeartbeats 1000000 in
theorem writeR_any (at_ size v s t a : Int) (b : Nat) (w : World) (hb : w.heap[b]? = some (RL s t a)) (hs : s = 0 ∨ s = 1)
    (ht0 : 0 ≤ t) (ht1 : t < 18446744073709551616) (ha0 : 0 ≤ a) (ha1 : a < 18446744073709551616)
    (hv0 : 0 ≤ v) (hv1 : v < 18446744073709551616) :
    Calls Try.prog 12 #[.pointer (some ⟨b, 0, none⟩), .int .u64 at_, .int .i64 size, .int .u64 v] w fun e w' => e = .returned (.bool (look at_ size).isSome) ∧
      w'.heap[b]? = some (RL (putAt 0 at_ size v s) (putAt 1 at_ size v t) (putAt 2 at_ size v a)) ∧ w.grownBy w' (some b) := by
  have HB := hide hb
  obtain ⟨c0, c1, c2, f0, f1, f2⟩ := cells3 hb
  clear hb
  rcases look_cases at_ size with ⟨rfl, rfl, hl⟩ | ⟨rfl, rfl, hl⟩ | ⟨rfl, rfl, hl⟩ | ⟨rfl, rfl, hl⟩ | ⟨rfl, rfl, hl⟩ | ⟨rfl, rfl, hl⟩ | ⟨rfl, rfl, hl⟩ | hl
  case inr.inr.inr.inr.inr.inr.inr =>
    have e0 : (at_ == 0 && size == 4) = false := by
      cases hx : (at_ == 0 && size == 4) with
      | false => rfl
      | true => simp at hx; obtain ⟨rfl, rfl⟩ := hx; cases hl
    have HL := hide hl
    have HS := hide hs
    clear hl hs
    by_cases ez : at_ = 0
    · subst ez
      have e4 : (size == 4) = false := by simpa using e0
      clear e0
      go_enter Try.func12, Try.ntmps12
      go_wp2_with (go_at_call 24; refine (whole_none _ _ _ _ (by omega) (unhide HL)).mono ?_; rintro e w1 ⟨rfl, rfl⟩)
      go_ret
      exact ⟨ret_b (by simp only [unhide HL]; rfl), by simp only [putAt, unhide HL]; exact unhide HB, grown_self _ _⟩
    · have e4 : (at_ == 0) = false := beq_eq_false_iff_ne.2 ez
      clear e0 ez
      go_enter Try.func12, Try.ntmps12
      go_wp2_with (go_at_call 24; refine (whole_none _ _ _ _ (by omega) (unhide HL)).mono ?_; rintro e w1 ⟨rfl, rfl⟩)
      go_ret
      exact ⟨ret_b (by simp only [unhide HL]; rfl), by simp only [putAt, unhide HL]; exact unhide HB, grown_self _ _⟩
  all_goals
    have HL := hide hl
    have HS := hide hs
    clear hl hs
    go_enter Try.func12, Try.ntmps12
    go_wp2
    go_ret
    refine ⟨ret_b ?_, ?_, grown_set (grown_self _ _) _ _⟩
    · simp only [unhide HL]; rfl
    · rw [heap_set (unhide HB)]
      simp only [putAt, unhide HL]
      have := unhide HS
      simp [putC, RL]
      try omega
end Go.Proofs.Ytiglekmfighgnaa
