/- Layer 15: Put: what may not be kept. -/
import Derived.Test.YtlkkmpfhhfaioaaT7
namespace Go.Proofs.Ytlkkmpfhhfaioaa
open Go.RowKit

structure E.wf (e : E) : Prop where
  a0 : 0 ≤ e.at_
  a1 : e.at_ < 18446744073709551616
  l0 : -9223372036854775808 ≤ e.lv
  l1 : e.lv < 9223372036854775808
  s0 : 0 ≤ e.sp
  s1 : e.sp < 18446744073709551616
  f0 : 0 ≤ e.lf
  f1 : e.lf < 18446744073709551616
def bad (e : E) : Bool := decide (e.lv < 0) || decide (2 < e.lv) || decide (65535 < e.sp) || !decide (e.at_ % sizeI e.lv = 0)
theorem mask12 (x : Int) (h0 : 0 ≤ x) (h1 : x < 18446744073709551616) : bits .and .u64 x 4095 = x % 4096 := by
  rw [u64_and x 4095 h0 h1 (by omega) (by omega)]
  have : x.toNat &&& (4095 : Int).toNat = x.toNat % 4096 := Nat.and_two_pow_sub_one_eq_mod x.toNat 12
  rw [this]; omega
theorem mask21 (x : Int) (h0 : 0 ≤ x) (h1 : x < 18446744073709551616) : bits .and .u64 x 2097151 = x % 2097152 := by
  rw [u64_and x 2097151 h0 h1 (by omega) (by omega)]
  have : x.toNat &&& (2097151 : Int).toNat = x.toNat % 2097152 := Nat.and_two_pow_sub_one_eq_mod x.toNat 21
  rw [this]; omega
theorem mask30 (x : Int) (h0 : 0 ≤ x) (h1 : x < 18446744073709551616) : bits .and .u64 x 1073741823 = x % 1073741824 := by
  rw [u64_and x 1073741823 h0 h1 (by omega) (by omega)]
  have : x.toNat &&& (1073741823 : Int).toNat = x.toNat % 1073741824 := Nat.and_two_pow_sub_one_eq_mod x.toNat 30
  rw [this]; omega
theorem bad_cases (e : E) (h : bad e = true) : e.lv < 0 ∨ 2 < e.lv ∨ (0 ≤ e.lv ∧ e.lv ≤ 2 ∧ 65535 < e.sp) ∨ (e.sp ≤ 65535 ∧ (e.lv = 0 ∨ e.lv = 1 ∨ e.lv = 2) ∧ ¬ e.at_ % sizeI e.lv = 0) := by
  unfold bad at h
  simp only [Bool.or_eq_true, decide_eq_true_eq, Bool.not_eq_true', decide_eq_false_iff_not] at h
  rcases h with ((h | h) | h) | h
  · exact .inl h
  · exact .inr (.inl h)
  · by_cases h1 : e.lv < 0
    · exact .inl h1
    · by_cases h2 : 2 < e.lv
      · exact .inr (.inl h2)
      · exact .inr (.inr (.inl ⟨by omega, by omega, h⟩))
  · by_cases h1 : e.lv < 0
    · exact .inl h1
    · by_cases h2 : 2 < e.lv
      · exact .inr (.inl h2)
      · by_cases h3 : 65535 < e.sp
        · exact .inr (.inr (.inl ⟨by omega, by omega, h3⟩))
        · exact .inr (.inr (.inr ⟨by omega, by omega, h⟩))
theorem ok_of (e : E) (hw : e.wf) (h : bad e = false) : e.ok ∧ e.sp ≤ 65535 ∧ e.at_ % sizeI e.lv = 0 := by
  unfold bad at h
  simp only [Bool.or_eq_false_iff, decide_eq_false_iff_not, Bool.not_eq_false', decide_eq_true_eq] at h
  obtain ⟨⟨⟨h1, h2⟩, h3⟩, h4⟩ := h
  exact ⟨⟨hw.a0, hw.a1, by omega, by omega, hw.s0, hw.s1, hw.f0, hw.f1⟩, by omega, h4⟩
section
variable {w0 w : World} {L : List HP} {seed : Int} {b bm : Nat} {S : Slots} {e : E}
set_option maxRecDepth 100000 in
set_option maxHeartbeats 1000000 in
theorem put_bad (hw : e.wf) (h : bad e = true) :
    Calls Try.prog 11 #[.pointer (some ⟨b, 0, none⟩), .agg #[.int .u64 e.at_, .int .i64 e.lv, .int .u64 e.sp, .bool e.gl, .int .u64 e.lf]] w fun r w' => r = .returned (.bool false) ∧ GN w w' := by
  have hc := bad_cases e h
  obtain ⟨x, lv, sp, gl, lf⟩ := e
  have h0 := hw.a0
  have h1 := hw.a1
  simp only at hc h0 h1
  clear h
  have e12 := hide (mask12 x h0 h1)
  have e21 := hide (mask21 x h0 h1)
  have e30 := hide (mask30 x h0 h1)
  rcases hc with hc | hc | ⟨hc0, hc1, hc⟩ | ⟨hs, hl, hc⟩
  · have d1 : decide (lv < 0) = true := decide_eq_true hc
    go_enter Try.func11, Try.ntmps11
    go_wp2
    go_quiet (fail)
    go_wp2
    go_ret
    exact ⟨rfl, ((GN.refl w).alloc _).drewN _⟩
  · have d1 : decide (lv < 0) = false := decide_eq_false (by omega)
    have d2 : decide (2 < lv) = true := decide_eq_true hc
    go_enter Try.func11, Try.ntmps11
    go_wp2
    go_quiet (fail)
    go_wp2
    go_ret
    exact ⟨rfl, ((GN.refl w).alloc _).drewN _⟩
  · have d1 : decide (lv < 0) = false := decide_eq_false (by omega)
    have d2 : decide (2 < lv) = false := decide_eq_false (by omega)
    have d3 : decide (65535 < sp) = true := decide_eq_true hc
    go_enter Try.func11, Try.ntmps11
    go_wp2
    go_quiet (fail)
    go_wp2
    go_ret
    exact ⟨rfl, ((GN.refl w).alloc _).drewN _⟩
  · have d3 : decide (65535 < sp) = false := decide_eq_false (by omega)
    rcases hl with rfl | rfl | rfl
    · have e1 := unhide e12
      have z : (x % 4096 == 0) = false := beq_eq_false_iff_ne.2 hc
      go_enter Try.func11, Try.ntmps11
      go_wp2
      go_quiet (fail)
      go_wp2
      go_ret
      exact ⟨rfl, ((GN.refl w).alloc _).drewN _⟩
    · have e1 := unhide e21
      have z : (x % 2097152 == 0) = false := beq_eq_false_iff_ne.2 hc
      go_enter Try.func11, Try.ntmps11
      go_wp2
      go_quiet (fail)
      go_wp2
      go_ret
      exact ⟨rfl, ((GN.refl w).alloc _).drewN _⟩
    · have e1 := unhide e30
      have z : (x % 1073741824 == 0) = false := beq_eq_false_iff_ne.2 hc
      go_enter Try.func11, Try.ntmps11
      go_wp2
      go_quiet (fail)
      go_wp2
      go_ret
      exact ⟨rfl, ((GN.refl w).alloc _).drewN _⟩
end
end Go.Proofs.Ytlkkmpfhhfaioaa
