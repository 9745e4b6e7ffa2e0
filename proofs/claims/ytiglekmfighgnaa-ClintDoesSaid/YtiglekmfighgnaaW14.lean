/- Every call answers as the chapter says: the law's walk. -/
import Derived.Test.YtiglekmfighgnaaW13
namespace Go.Proofs.Ytiglekmfighgnaa
open Go.RowKit

theorem newR_st {w0 w : World} {bm : Nat} {s t a : Int} (h : St w0 w bm s t a) : Calls Try.prog 10 #[] w fun e w' => ∃ br, e = .returned (.pointer (some ⟨br, 0, none⟩)) ∧ St w0 w' bm s t a ∧ w'.heap[br]? = some (RL 0 0 18446744073709551615) ∧ bm ≠ br ∧ w0.heap.size ≤ br :=
  (newR_any w).mono fun _ _ ⟨he, hh, hg, _⟩ => ⟨_, he, h.quiet hg, hh, Nat.ne_of_lt (lt_of_heap h.heap), h.below.size⟩
/-- The head of a round. -/
structure DM (w0 w : World) (bm br : Nat) (s t a : Int) : Prop where
  one : St w0 w bm s t a
  ref : w.heap[br]? = some (RL s t a)
  nmr : bm ≠ br
  base_r : w0.heap.size ≤ br

theorem DM.dd {w0 w : World} {bm br : Nat} {s t a : Int} (h : DM w0 w bm br s t a) (k at_ size v : Int) (v0 : 0 ≤ v) (v1 : v < 18446744073709551616) :
    DD w0 (w.alloc (.cells #[.int .i64 k, .int .u64 at_, .int .i64 size, .int .u64 v] 30)) bm br w.heap.size s t a s t a k at_ size v :=
  have hg := grown_alloc (grown_self w none) (.cells #[.int .i64 k, .int .u64 at_, .int .i64 size, .int .u64 v] 30)
  ⟨h.one.quiet hg, grown_heap h.ref hg, heap_new _ _, h.nmr, Nat.ne_of_lt (lt_of_heap h.one.heap), Nat.ne_of_lt (lt_of_heap h.ref), h.base_r, v0, v1⟩
theorem DD.dm {w0 w : World} {bm br bx : Nat} {s t a k at_ size v : Int} (h : DD w0 w bm br bx s t a s t a k at_ size v) : DM w0 w bm br s t a := ⟨h.one, h.ref, h.nmr, h.base_r⟩
theorem DM.quiet {w0 w w' : World} {bm br : Nat} {s t a : Int} (h : DM w0 w bm br s t a) (hg : w.grownBy w' none) : DM w0 w' bm br s t a :=
  ⟨h.one.quiet hg, grown_heap h.ref hg, h.nmr, h.base_r⟩
theorem read_dm {w0 w : World} {bm br : Nat} {s t a : Int} (h : DM w0 w bm br s t a) (p z : Int) :
    Calls Try.prog 13 #[.pointer (some ⟨bm, 0, none⟩), .int .u64 p, .int .i64 z] w fun e w' => e = .returned (.tuple #[.int .u64 (readC p z s t a).1, .bool (readC p z s t a).2]) ∧ DM w0 w' bm br s t a :=
  (read_any p z s t a bm w h.one.heap h.one.range.1 h.one.range.2 h.one.t0 h.one.t1 h.one.a0 h.one.a1).mono fun _ _ ⟨he, hg⟩ => ⟨he, h.quiet hg⟩
theorem ends_any {w0 w : World} {bm br : Nat} {s t a : Int} (h : DM w0 w bm br s t a) :
    Calls Try.prog 22 #[.pointer (some ⟨bm, 0, none⟩), .pointer (some ⟨br, 0, none⟩)] w fun e w' => e = .returned (.bool true) ∧ DM w0 w' bm br s t a := by
  have ha : a % 18446744073709551616 = a := by have := h.one.a0; have := h.one.a1; omega
  have hs : s % 2 = s := by have := h.one.hs; omega
  go_enter Try.func22, Try.ntmps22
  go_wp2_with (go_at_call 13; refine (read_dm h _ _).mono ?_; rintro e w2 ⟨rfl, h⟩; simp only [go_sem, ha, hs])
  obtain ⟨c0, c1, c2, _⟩ := cells3 h.ref
  clear ha hs
  go_quiet (first
    | (go_at_call 19; exact Calls.quiet_of (pend_any bm s t a _ h.one.heap h.one.hs))
    | (go_at_call 20; exact Calls.quiet_of (pendR_any br s t a _ h.ref h.one.hs))
    | (go_at_call 21; exact Calls.quiet_of_same (time_any bm s t a _ h.one.heap)))
  go_wp2_with fail
  go_ret
  exact ⟨rfl, h.quiet (grown_drewN (grown_self _ none) _)⟩
set_option maxRecDepth 100000 in
set_option maxHeartbeats 4000000 in
theorem does_walk (v : Value) (n : Nat) (X : Nat → Int × Int × Int × Int) (w : World) (hS : SL w v n X) :
    Calls Try.prog 3 #[v] w fun e w' => e = .returned (.bool true) ∧ Below w.heap.size w w' := by
  obtain ⟨A, cap, rfl⟩ : ∃ A cap, v = .slice A n cap := by
    rcases hS with ⟨rfl, A, cap, rfl⟩ | ⟨ab, ao, cap, rfl, _⟩ <;> exact ⟨_, _, rfl⟩
  have HS := hide hS
  clear hS
  go_enter Try.func3, Try.ntmps3
  go_wp2_with (first
      | (go_at_call 8; refine (fixed_any w).mono ?_; rintro e w1 ⟨rfl, b1⟩)
      | (go_at_call 9; refine (new_st b1).mono ?_; rintro e w2 ⟨b, rfl, hst⟩)
      | (go_at_call 10; refine (newR_st hst).mono ?_; rintro e w3 ⟨br, rfl, hst3, hr3, hne3, hb3⟩; have hdm : DM w w3 b br 0 0 18446744073709551615 := ⟨hst3, hr3, hne3, hb3⟩; clear hst3 hr3 hne3 hb3 hst b1))
  go_loopw [3, 4, 5] (fun m r i wr => ∃ (k bm br : Nat) (s t a : Int), i = .int .i64 k ∧ m = .pointer (some ⟨bm, 0, none⟩) ∧ r = .pointer (some ⟨br, 0, none⟩) ∧ k ≤ n ∧ DM w wr bm br s t a) (fun _ _ i _ => n - (intOf i).toNat)
  case atStart => exact ⟨0, _, _, _, _, _, rfl, rfl, rfl, Nat.zero_le _, hdm⟩
  case round =>
    clear hdm
    obtain ⟨k, bm, br, s, t, a, rfl, rfl, rfl, hk, hdm⟩ := hrel
    by_cases hlt : k < n
    · rcases unhide HS with ⟨rfl, _⟩ | ⟨ab, ao, cap', hv, hab, hn, hX⟩
      · omega
      · have hA : A = some ⟨ab, ao, none⟩ := by injection hv
        subst hA
        have hX' := hX k hlt
        have hcell : ∀ j, wr.cell? ⟨ab, j, none⟩ = w.cell? ⟨ab, j, none⟩ := fun j => hdm.one.below.cell (p := ⟨ab, j, none⟩) (hab (by omega))
        rw [← hcell, ← hcell, ← hcell, ← hcell] at hX'
        obtain ⟨x0, x1, x2, x3, hv0, hv1⟩ := hX'
        clear hX hcell hv
        generalize X k = x at *
        obtain ⟨kd, at_, size, v⟩ := x
        simp only at x0 x1 x2 x3 hv0 hv1
        have hdd := hdm.dd kd at_ size v hv0 hv1
        have hcs := hdd.cells
        have hN := hn
        clear hn
        by_cases k0 : kd = 0
        · subst k0
          go_wp2_with (first
            | (go_at_call 11; refine (write_dd hdd).mono ?_; rintro e w4 ⟨rfl, hdd⟩; have hcs := hdd.cells)
            | (go_at_call 12; refine (writeR_dd hdd hdm.one.hs hdm.one.t0 hdm.one.t1 hdm.one.a0 hdm.one.a1).mono ?_; rintro e w4 ⟨rfl, hdd⟩; have hcs := hdd.cells))
          go_roundw
          case rel => exact ⟨k + 1, bm, br, _, _, _, by go_num, rfl, rfl, by omega, hdd.dm⟩
          case measure => simp [intOf]; omega
        · by_cases k1 : kd = 1
          · subst k1
            go_wp2_with (first
              | (go_at_call 13; refine (read_dd hdd _ _).mono ?_; rintro e w4 ⟨rfl, hdd⟩; have hcs := hdd.cells)
              | (go_at_call 14; refine (readR_dd hdd _ _).mono ?_; rintro e w4 ⟨rfl, hdd⟩; have hcs := hdd.cells))
            go_roundw
            case rel => exact ⟨k + 1, bm, br, _, _, _, by go_num, rfl, rfl, by omega, hdd.dm⟩
            case measure => simp [intOf]; omega
          · by_cases k2 : kd = 2
            · subst k2
              go_wp2_with (first
                | (go_at_call 15; refine (copy_dd hdd).mono ?_; rintro e w4 ⟨bn, rfl, hdo⟩; have hcs := hdo.dd.cells)
                | (go_at_call 16; refine (copyR_do hdo).mono ?_; rintro e w4 ⟨bn', rfl, hdo⟩; have hcs := hdo.dd.cells)
                | (go_at_call 11; refine (write_do hdo).mono ?_; rintro e w4 ⟨rfl, hdo⟩; have hcs := hdo.dd.cells)
                | (go_at_call 13; refine (read_do hdo).mono ?_; rintro e w4 ⟨y1, y2, rfl, hdo⟩; have hcs := hdo.dd.cells)
                | (go_at_call 17; refine (tick_do hdo).mono ?_; rintro e w4 ⟨rfl, hdo⟩; have hcs := hdo.dd.cells))
              go_roundw
              case rel => exact ⟨k + 1, _, _, _, _, _, by go_num, rfl, rfl, by omega, hdo.dd.dm⟩
              case measure => simp [intOf]; omega
            · by_cases k3 : kd = 3
              · subst k3
                go_wp2_with (first
                  | (go_at_call 17; refine (tick_dd hdd).mono ?_; rintro e w4 ⟨rfl, hdd⟩; have hcs := hdd.cells)
                  | (go_at_call 18; refine (tickR_dd hdd).mono ?_; rintro e w4 ⟨rfl, hdd⟩; have hcs := hdd.cells))
                go_roundw
                case rel => exact ⟨k + 1, bm, br, _, _, _, by go_num, rfl, rfl, by omega, hdd.dm⟩
                case measure => simp [intOf]; omega
              · have q0 : (kd == 0) = false := beq_eq_false_iff_ne.2 k0
                have q1 : (kd == 1) = false := beq_eq_false_iff_ne.2 k1
                have q2 : (kd == 2) = false := beq_eq_false_iff_ne.2 k2
                have q3 : (kd == 3) = false := beq_eq_false_iff_ne.2 k3
                clear k0 k1 k2 k3
                go_wp2_with fail
                go_quiet (first
                  | (go_at_call 19; exact Calls.quiet_of (pend_any bm s t a _ hdd.one.heap hdd.one.hs))
                  | (go_at_call 20; exact Calls.quiet_of (pendR_any br s t a _ hdd.ref hdd.one.hs))
                  | (go_at_call 21; exact Calls.quiet_of_same (time_any bm s t a _ hdd.one.heap)))
                go_wp2_with fail
                go_roundw
                case rel => exact ⟨k + 1, bm, br, _, _, _, by go_num, rfl, rfl, by omega, (hdd.quiet (grown_drewN (grown_self _ none) _)).dm⟩
                case measure => simp [intOf]; omega
    · obtain rfl : n = k := by omega
      go_wp2_with fail
      refine (ends_any hdm).mono ?_
      rintro e w5 ⟨rfl, hdm⟩
      go_wp2_with fail
      go_ret
      exact ⟨rfl, hdm.one.below⟩
end Go.Proofs.Ytiglekmfighgnaa
