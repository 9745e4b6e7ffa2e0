/- The laws of the alarm and of copies. -/
import Derived.Test.YtiglekmfighgnaaW9
namespace Go.Proofs.Ytiglekmfighgnaa
open Go.RowKit

theorem pend_no_st {w0 w : World} {b : Nat} {s t a : Int} (h : St w0 w b s t a) (hn : t < a) :
    Calls Try.prog 19 #[.pointer (some ⟨b, 0, none⟩)] w fun e w' => e = .returned (.int .u64 (s * 8)) ∧ St w0 w' b s t a :=
  (pend_st h).mono fun _ _ ⟨he, hs⟩ => ⟨by rw [he, pend_no (Int.not_le.2 hn), Int.add_zero], hs⟩
theorem pend_yes_st {w0 w : World} {b : Nat} {s t a : Int} (h : St w0 w b s t a) (hn : a ≤ t) :
    Calls Try.prog 19 #[.pointer (some ⟨b, 0, none⟩)] w fun e w' => e = .returned (.int .u64 (s * 8 + 128)) ∧ St w0 w' b s t a :=
  (pend_st h).mono fun _ _ ⟨he, hs⟩ => ⟨by rw [he, pend_yes hn], hs⟩
set_option maxHeartbeats 2000000 in
theorem rings_walk (start ahead soft : Int) (hv0 : 0 ≤ start) (hv1 : start < 18446744073709551616) (ht0 : 0 ≤ ahead) (ht1 : ahead < 18446744073709551616) (ha0 : 0 ≤ soft) (ha1 : soft < 18446744073709551616) (w : World) :
    Calls Try.prog 4 #[.int .u64 start, .int .u64 ahead, .int .u64 soft] w fun e w' => e = .returned (.bool true) ∧ Below w.heap.size w w' := by
  go_enter Try.func4, Try.ntmps4
  go_wp2_with (first
      | (go_at_call 8; refine (fixed_any w).mono ?_; rintro e w1 ⟨rfl, b1⟩)
      | (go_at_call 9; refine (new_st b1).mono ?_; rintro e w2 ⟨b, rfl, hst⟩)
      | (go_at_call 11; refine (write_st hst _ _ _ (by omega) (by omega)).mono ?_; rintro e w2 ⟨rfl, hst⟩; simp only [go_sem] at hst))
  go_loopw [8] (fun n wr => ∃ k : Nat, n = .int .u64 k ∧ (k : Int) ≤ ahead % 300 ∧ St w wr b (soft % 2) (start % 4611686018427387904 + k) (start % 4611686018427387904 + ahead % 300)) (fun n _ => (ahead % 300).toNat - (intOf n).toNat)
  case atStart => exact ⟨0, rfl, by omega, by simpa using hst⟩
  case round =>
    obtain ⟨k, rfl, hk, hst⟩ := hrel
    by_cases hlt : (k : Int) < ahead % 300
    · have hno : start % 4611686018427387904 + (k : Int) < start % 4611686018427387904 + ahead % 300 := by omega
      go_wp2_with (first
        | (go_at_call 19; refine (pend_no_st hst hno).mono ?_; rintro e w3 ⟨rfl, hst⟩)
        | (go_at_call 21; refine (time_st hst).mono ?_; rintro e w4 ⟨rfl, rfl⟩)
        | (go_at_call 17; refine (tick_st hst).mono ?_; rintro e w5 ⟨rfl, hst⟩))
      go_roundw
      case rel =>
        refine ⟨k + 1, by go_num, by omega, ?_⟩
        have e : (start % 4611686018427387904 + (k : Int) + 1) % 18446744073709551616 = start % 4611686018427387904 + ((k + 1 : Nat) : Int) := by omega
        rw [e] at hst
        exact hst
      case measure => simp [intOf]; omega
    · have hk' : (k : Int) = ahead % 300 := by omega
      rw [hk'] at hst
      have hyes : start % 4611686018427387904 + ahead % 300 ≤ start % 4611686018427387904 + ahead % 300 := by omega
      have ew : (start % 4611686018427387904 + ahead % 300 + 1) % 18446744073709551616 = start % 4611686018427387904 + ahead % 300 + 1 := by omega
      have hyes2 : start % 4611686018427387904 + ahead % 300 ≤ start % 4611686018427387904 + ahead % 300 + 1 := by omega
      have hno2 : start % 4611686018427387904 + ahead % 300 + 1 < start % 4611686018427387904 + ahead % 300 + 1 + 1 := by omega
      have s0 : 0 ≤ start % 4611686018427387904 := by omega
      have s1 : start % 4611686018427387904 < 4611686018427387904 := by omega
      have a0 : 0 ≤ ahead % 300 := by omega
      have a1 : ahead % 300 < 300 := by omega
      have hge : ahead % 300 ≤ (k : Int) := by omega
      clear hk hlt hk'
      generalize start % 4611686018427387904 = S at *
      generalize ahead % 300 = A at *
      go_wp2_with (first
        | (go_at_call 19; refine (pend_yes_st hst hyes).mono ?_; rintro e w3 ⟨rfl, hst⟩)
        | (go_at_call 19; refine (pend_yes_st hst hyes2).mono ?_; rintro e w3 ⟨rfl, hst⟩)
        | (go_at_call 19; refine (pend_no_st hst hno2).mono ?_; rintro e w3 ⟨rfl, hst⟩)
        | (go_at_call 11; refine (write_st hst _ _ _ (by omega) (by omega)).mono ?_; rintro e w2 ⟨rfl, hst⟩; simp only [go_sem] at hst)
        | (go_at_call 13; refine (read_st hst _ _).mono ?_; rintro e w2 ⟨rfl, hst⟩; simp only [go_sem])
        | (go_at_call 21; refine (time_st hst).mono ?_; rintro e w4 ⟨rfl, rfl⟩)
        | (go_at_call 17; refine (tick_st hst).mono ?_; rintro e w5 ⟨rfl, hst⟩; rw [ew] at hst))
      go_ret
      exact ⟨rfl, hst.below⟩
end Go.Proofs.Ytiglekmfighgnaa
