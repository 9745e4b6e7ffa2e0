/- The law of copies. -/
import Derived.Test.YtiglekmfighgnaaW9
namespace Go.Proofs.Ytiglekmfighgnaa
open Go.RowKit

/-- Two Clints of the law's own. -/
structure St2 (w0 w : World) (b c : Nat) (s t a s' t' a' : Int) : Prop where
  one : St w0 w b s t a
  two : St w0 w c s' t' a'
  ne : b ≠ c
theorem St.other {w0 w w' : World} {b c : Nat} {s t a : Int} (h : St w0 w c s t a) (hg : w.grownBy w' (some b)) (hB : w0.heap.size ≤ b) (hne : b ≠ c) : St w0 w' c s t a :=
  ⟨(hg.block c (lt_of_heap h.heap) (fun e => hne (by injection e with e; exact e.symm))).trans h.heap, h.below.grown hg h.below.size (fun k hk => by injection hk with hk; omega), h.base, h.hs, h.t0, h.t1, h.a0, h.a1⟩
section
variable {w0 w : World} {b c : Nat} {s t a s' t' a' : Int}
theorem St2.swap (h : St2 w0 w b c s t a s' t' a') : St2 w0 w c b s' t' a' s t a := ⟨h.two, h.one, fun e => h.ne e.symm⟩
theorem copy_st2 (h : St w0 w b s t a) : Calls Try.prog 15 #[.pointer (some ⟨b, 0, none⟩)] w fun e w' => ∃ c, e = .returned (.pointer (some ⟨c, 0, none⟩)) ∧ St2 w0 w' b c s t a s t a :=
  (copy_any b s t a w h.heap).mono fun _ _ ⟨he, hh, hg, _⟩ => ⟨_, he, h.quiet hg, ⟨hh, (h.quiet hg).below, h.below.size, h.hs, h.t0, h.t1, h.a0, h.a1⟩, Nat.ne_of_lt (lt_of_heap h.heap)⟩
theorem tick_st2 (h : St2 w0 w b c s t a s' t' a') :
    Calls Try.prog 17 #[.pointer (some ⟨b, 0, none⟩)] w fun e w' => e = .returned (.tuple #[]) ∧ St2 w0 w' b c s ((t + 1) % 18446744073709551616) a s' t' a' :=
  (tick_any b s t a w h.one.heap).mono fun _ _ ⟨he, hh, hg⟩ => by
    rw [IntKind.wrap_u64] at hh
    exact ⟨he, h.one.grown hh hg h.one.hs (by omega) (by omega) h.one.a0 h.one.a1, h.two.other hg h.one.base h.ne, h.ne⟩
theorem tick_st2' (h : St2 w0 w c b s' t' a' s t a) :
    Calls Try.prog 17 #[.pointer (some ⟨b, 0, none⟩)] w fun e w' => e = .returned (.tuple #[]) ∧ St2 w0 w' c b s' t' a' s ((t + 1) % 18446744073709551616) a :=
  (tick_st2 h.swap).mono fun _ _ ⟨he, h⟩ => ⟨he, h.swap⟩
theorem time_st2 (h : St2 w0 w b c s t a s' t' a') : Calls Try.prog 21 #[.pointer (some ⟨b, 0, none⟩)] w fun e w' => e = .returned (.int .u64 t) ∧ w' = w := time_st h.one
theorem time_st2' (h : St2 w0 w c b s' t' a' s t a) : Calls Try.prog 21 #[.pointer (some ⟨b, 0, none⟩)] w fun e w' => e = .returned (.int .u64 t) ∧ w' = w := time_st h.two
theorem pend_st2 (h : St2 w0 w b c s t a s' t' a') : Calls Try.prog 19 #[.pointer (some ⟨b, 0, none⟩)] w fun e w' => e = .returned (.int .u64 (pendC s t a)) ∧ St2 w0 w' b c s t a s' t' a' :=
  (pend_any b s t a w h.one.heap h.one.hs).mono fun _ _ ⟨he, n, hw⟩ => by
    have hg : w.grownBy (w.drewN n) none := grown_drewN (grown_self w none) n
    rw [hw]
    exact ⟨he, h.one.quiet hg, h.two.quiet hg, h.ne⟩
theorem pend_st2' (h : St2 w0 w c b s' t' a' s t a) : Calls Try.prog 19 #[.pointer (some ⟨b, 0, none⟩)] w fun e w' => e = .returned (.int .u64 (pendC s t a)) ∧ St2 w0 w' c b s' t' a' s t a :=
  (pend_st2 h.swap).mono fun _ _ ⟨he, h⟩ => ⟨he, h.swap⟩
theorem write_st2' (h : St2 w0 w c b s' t' a' s t a) (at_ size v : Int) (hv0 : 0 ≤ v) (hv1 : v < 18446744073709551616) :
    Calls Try.prog 11 #[.pointer (some ⟨b, 0, none⟩), .int .u64 at_, .int .i64 size, .int .u64 v] w fun e w' => e = .returned (.bool (look at_ size).isSome) ∧
      St2 w0 w' c b s' t' a' (putAt 0 at_ size v s) (putAt 1 at_ size v t) (putAt 2 at_ size v a) :=
  (write_any at_ size v s t a b w h.two.heap h.two.range.1 h.two.range.2 h.two.t0 h.two.t1 h.two.a0 h.two.a1 hv0 hv1).mono fun _ _ ⟨he, hh, hg⟩ =>
    ⟨he, h.one.other hg h.two.base (fun e => h.ne e.symm), h.two.grown hh hg (putAt_soft _ _ _ _ h.two.hs) (putAt_range _ _ _ _ _ h.two.t0 h.two.t1 hv0 hv1).1 (putAt_range _ _ _ _ _ h.two.t0 h.two.t1 hv0 hv1).2 (putAt_range _ _ _ _ _ h.two.a0 h.two.a1 hv0 hv1).1 (putAt_range _ _ _ _ _ h.two.a0 h.two.a1 hv0 hv1).2, h.ne⟩
theorem read_st2 (h : St2 w0 w b c s t a s' t' a') (at_ size : Int) :
    Calls Try.prog 13 #[.pointer (some ⟨b, 0, none⟩), .int .u64 at_, .int .i64 size] w fun e w' => e = .returned (.tuple #[.int .u64 (readC at_ size s t a).1, .bool (readC at_ size s t a).2]) ∧ St2 w0 w' b c s t a s' t' a' :=
  (read_any at_ size s t a b w h.one.heap h.one.range.1 h.one.range.2 h.one.t0 h.one.t1 h.one.a0 h.one.a1).mono fun _ _ ⟨he, hg⟩ => ⟨he, h.one.quiet hg, h.two.quiet hg, h.ne⟩
end

set_option maxHeartbeats 2000000 in
theorem copies_walk (time alarm soft ticks : Int) (hv0 : 0 ≤ time) (hv1 : time < 18446744073709551616) (ht0 : 0 ≤ alarm) (ht1 : alarm < 18446744073709551616) (ha0 : 0 ≤ soft) (ha1 : soft < 18446744073709551616)
    (hk0 : -9223372036854775808 ≤ ticks) (hk1 : ticks ≤ 9223372036854775807) (w : World) :
    Calls Try.prog 7 #[.int .u64 time, .int .u64 alarm, .int .u64 soft, .int .i64 ticks] w fun e w' => e = .returned (.bool true) ∧ Below w.heap.size w w' := by
  by_cases hneg : ticks.tmod 100 < 0
  all_goals
   go_enter Try.func7, Try.ntmps7
   go_wp2_with (first
      | (go_at_call 8; refine (fixed_any w).mono ?_; rintro e w1 ⟨rfl, b1⟩)
      | (go_at_call 9; refine (new_st b1).mono ?_; rintro e w2 ⟨b, rfl, hst⟩)
      | (go_at_call 11; refine (write_st hst _ _ _ (by omega) (by omega)).mono ?_; rintro e w2 ⟨rfl, hst⟩; simp only [go_sem] at hst)
      | (go_at_call 15; refine (copy_st2 hst).mono ?_; rintro e w2 ⟨c, rfl, hst⟩))
  all_goals
    have hm1 := Int.tmod_lt_of_pos ticks (show (0 : Int) < 100 by omega)
    have hm2 := Int.lt_tmod_of_pos ticks (show (0 : Int) < 100 by omega)
    obtain ⟨N, hN, hlN⟩ : ∃ N : Nat, ((ticks.tmod 100 < 0 ∧ wrap64 (-ticks.tmod 100) = (N : Int)) ∨ (0 ≤ ticks.tmod 100 ∧ ticks.tmod 100 = (N : Int))) ∧ N < 100 := by
      unfold wrap64
      exact ⟨(ticks.tmod 100).natAbs, by omega, by omega⟩
    first
      | (have hq := (hN.resolve_right (by omega)).2; rw [hq]; clear hq)
      | (have hq := (hN.resolve_left (by omega)).2; rw [hq]; clear hq)
    clear hm1 hm2 hN
    have c0 : (soft + 1) % 18446744073709551616 % 2 = (soft + 1) % 2 := by omega
    have c1 := u64_mask1 soft ha0 ha1
    have c4 : 0 ≤ IntKind.u64.wrap (soft + 1) := by rw [IntKind.wrap_u64]; omega
    have c5 : IntKind.u64.wrap (soft + 1) < 18446744073709551616 := by rw [IntKind.wrap_u64]; omega
    have c2 : alarm % 18446744073709551616 = alarm := by omega
    have c3 : IntKind.u64.wrap (time + (N : Int)) = (time + (N : Int)) % 18446744073709551616 := IntKind.wrap_u64 _
    go_loopw [12] (fun i wr => ∃ k : Nat, i = .int .i64 k ∧ k ≤ N ∧ St2 w wr b c (soft % 2) ((time + k) % 18446744073709551616) alarm (soft % 2) time alarm) (fun i _ => N - (intOf i).toNat)
    case atStart => exact ⟨0, rfl, by omega, by have e : (time + ((0 : Nat) : Int)) % 18446744073709551616 = time := by omega
                                                rw [e]; simpa using hst⟩
    case round =>
      clear hst
      obtain ⟨k, rfl, hk, hst⟩ := hrel
      by_cases hlt : k < N
      · go_wp2_with (go_at_call 17; with_reducible refine (tick_st2 hst).mono ?_; rintro e w4 ⟨rfl, hst⟩)
        go_roundw
        case rel =>
          have e : ((time + (k : Int)) % 18446744073709551616 + 1) % 18446744073709551616 = (time + ((k + 1 : Nat) : Int)) % 18446744073709551616 := by omega
          rw [e] at hst
          exact ⟨k + 1, by go_num, by omega, hst⟩
        case measure => simp [intOf]; omega
      · obtain rfl : N = k := by omega
        clear hk hlt
        rename Nat => N
        go_wp2_with (first
        | (go_at_call 21; with_reducible refine (time_st2 hst).mono ?_; rintro e w4 ⟨rfl, rfl⟩)
        | (go_at_call 21; with_reducible refine (time_st2' hst).mono ?_; rintro e w4 ⟨rfl, rfl⟩)
        | (go_at_call 19; with_reducible refine (pend_st2 hst).mono ?_; rintro e w4 ⟨rfl, hst⟩)
        | (go_at_call 19; with_reducible refine (pend_st2' hst).mono ?_; rintro e w4 ⟨rfl, hst⟩)
        | (go_at_call 11; refine (write_st2' hst _ _ _ (by omega) (by omega)).mono ?_; rintro e w2 ⟨rfl, hst⟩; simp only [go_sem] at hst)
        | (go_at_call 13; refine (read_st2 hst _ _).mono ?_; rintro e w2 ⟨rfl, hst⟩; simp only [go_sem]))
        go_loopw [13] (fun i wr => ∃ k : Nat, i = .int .i64 k ∧ k ≤ N ∧ St2 w wr b c (soft % 2) ((time + N) % 18446744073709551616) alarm (soft % 2) ((time + k) % 18446744073709551616) alarm) (fun i _ => N - (intOf i).toNat)
        case atStart => exact ⟨0, rfl, by omega, by have e : (time + ((0 : Nat) : Int)) % 18446744073709551616 = time := by omega
                                                    rw [e]; exact hst⟩
        case round =>
          clear hst
          obtain ⟨k, rfl, hk, hst⟩ := hrel
          by_cases hlt : k < N
          · go_wp2_with (go_at_call 17; with_reducible refine (tick_st2' hst).mono ?_; rintro e w4 ⟨rfl, hst⟩)
            go_roundw
            case rel =>
              have e : ((time + (k : Int)) % 18446744073709551616 + 1) % 18446744073709551616 = (time + ((k + 1 : Nat) : Int)) % 18446744073709551616 := by omega
              rw [e] at hst
              exact ⟨k + 1, by go_num, by omega, hst⟩
            case measure => simp [intOf]; omega
          · obtain rfl : N = k := by omega
            clear hk hlt
            go_wp2_with (first
        | (go_at_call 21; with_reducible refine (time_st2 hst).mono ?_; rintro e w4 ⟨rfl, rfl⟩)
        | (go_at_call 21; with_reducible refine (time_st2' hst).mono ?_; rintro e w4 ⟨rfl, rfl⟩)
        | (go_at_call 19; with_reducible refine (pend_st2 hst).mono ?_; rintro e w4 ⟨rfl, hst⟩)
        | (go_at_call 19; with_reducible refine (pend_st2' hst).mono ?_; rintro e w4 ⟨rfl, hst⟩)
        | (go_at_call 11; refine (write_st2' hst _ _ _ (by omega) (by omega)).mono ?_; rintro e w2 ⟨rfl, hst⟩; simp only [go_sem] at hst)
        | (go_at_call 13; refine (read_st2 hst _ _).mono ?_; rintro e w2 ⟨rfl, hst⟩; simp only [go_sem]))
            go_ret
            exact ⟨rfl, hst.one.below⟩
end Go.Proofs.Ytiglekmfighgnaa
