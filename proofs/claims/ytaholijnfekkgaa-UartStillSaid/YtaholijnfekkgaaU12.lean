/- UartStill: the walk. -/
import Derived.Test.YtaholijnfekkgaaU10
namespace Go.Proofs.Ytaholijnfekkgaa
open Go.RowKit

/-- Bytes that came in, in a later world. -/
theorem byte_at {w wr : World} {A : Option Addr} {n k : Nat} (hS : SlArg [some .u8] w A n) (hb : Below w.heap.size w wr) (hk : k < n) : ∃ ab ao, A = some ⟨ab, ao, none⟩ ∧ ∃ x : Int,
    wr.cell? ⟨ab, ao + k, none⟩ = some (.int .u8 x) ∧ 0 ≤ x ∧ x < 256 := by
  obtain ⟨ab, ao, hA, hab, hX⟩ := hS (by omega)
  obtain ⟨cs, hf, hc⟩ := hX k hk
  have c0 := cell_int hf hc (j := 0) rfl
  simp only [List.length_cons, List.length_nil, Nat.zero_add, Nat.add_zero, Nat.mul_one] at c0
  have := bounds_u8 c0.2
  exact ⟨ab, ao, hA, _, (hb.cell (p := ⟨ab, _, none⟩) hab).trans c0.1, this.1, by omega⟩
section
variable {w0 w w' : World} {L : List HP} {b br : Nat} {q s came : List Int} {rd : Nat} {wa lo : Bool} {sc : Int}
theorem read_same {w0 w : World} {L : List HP} {b : Nat} {q s : List Int} {wa lo : Bool} {sc : Int} (h : Heap w0 w (HP.uu b q s wa lo sc :: L)) (at_ size : Int) (a0 : 0 ≤ at_) (hn : ¬ (size = 1 ∧ (at_ = 0 ∨ at_ = 1 ∨ at_ = 7))) :
    Calls Try.prog 12 #[.pointer (some ⟨b, 0, none⟩), .int .u64 at_, .int .i64 size] w fun e w' => ∃ x, e = .returned (.tuple #[.int .u64 x, .bool (rOk at_ size)]) ∧ (rOk at_ size = false → x = 0) ∧ Heap w0 w' (HP.uu b q s wa (rLo lo at_ size) sc :: L) :=
  (read_h h at_ size a0).mono fun e w' ⟨he, hJ⟩ => ⟨_, he, fun h0 => by simp [rV, h0], by
    have : rQ q at_ size = q := by
      unfold rQ rOk
      rw [if_neg]
      simp only [Bool.and_eq_true, decide_eq_true_eq]
      omega
    rw [this] at hJ
    exact hJ⟩
theorem write_same {w0 w : World} {L : List HP} {b : Nat} {q s : List Int} {wa lo : Bool} {sc : Int} (h : Heap w0 w (HP.uu b q s wa lo sc :: L)) (hs : s.length < 140737488355328) (at_ size v : Int) (a0 : 0 ≤ at_) (v0 : 0 ≤ v) (v1 : v < 18446744073709551616) (hn : ¬ (size = 1 ∧ (at_ = 0 ∨ at_ = 1 ∨ at_ = 7))) :
    Calls Try.prog 10 #[.pointer (some ⟨b, 0, none⟩), .int .u64 at_, .int .i64 size, .int .u64 v] w fun e w' => e = .returned (.bool (rOk at_ size)) ∧ Heap w0 w' (HP.uu b q s wa lo sc :: L) :=
  (write_h h hs at_ size v a0 v0 v1).mono fun e w' ⟨he, hJ⟩ => ⟨he, by
    have h1 : ∀ k, (k = 0 ∨ k = 1 ∨ k = 7) → ¬ (rOk at_ size = true ∧ at_ = k) := by
      intro k hk
      unfold rOk
      simp only [Bool.and_eq_true, decide_eq_true_eq]
      omega
    rw [show wS s at_ size v = s by unfold wS; rw [if_neg (h1 0 (by omega))], show wWa wa at_ size v = wa by unfold wWa; rw [if_neg (h1 1 (by omega))], show wSc sc at_ size v = sc by unfold wSc; rw [if_neg (h1 7 (by omega))]] at hJ
    exact hJ⟩
end

set_option maxRecDepth 100000 in
set_option maxHeartbeats 1000000 in
theorem still_yes (v0 : Value) (at_ v : Int) (w : World) (h : at_ = 0 ∨ at_ = 1 ∨ at_ = 7) :
    Calls Try.prog 6 #[v0, .int .u64 at_, .int .i64 1, .int .u64 v] w fun e w' => e = .returned (.bool true) ∧ Below w.heap.size w w' := by
  rcases h with rfl | rfl | rfl
  all_goals
    go_enter Try.func6, Try.ntmps6
    go_wp2_with (go_at_call 7; refine (fixed_any w).mono ?_; rintro e w1 ⟨rfl, b1⟩)
    go_ret
    exact ⟨rfl, (Heap.of_grown b1).below⟩

set_option maxRecDepth 100000 in
set_option maxHeartbeats 4000000 in
theorem still_A (A : Option Addr) (n cap : Nat) (size v : Int) (w : World) (hS : SlArg [some .u8] w A n) (hn : n ≤ 140737488355328) (hz : (size == 1) = false) (ha0 : 0 ≤ (5 : Int)) (hv0 : 0 ≤ v) (hv1 : v < 18446744073709551616) :
    Calls Try.prog 6 #[.slice A n cap, .int .u64 5, .int .i64 size, .int .u64 v] w fun e w' => e = .returned (.bool true) ∧ Below w.heap.size w w' := by
  have HS := hide hS
  clear hS
  have hz1 : ¬ size = 1 := beq_eq_false_iff_ne.1 hz
  have hro : rOk 5 size = false := by simp [rOk, hz1]
  have hno := hide hz1
  have hlo := hide (show ∀ lo, rLo lo 5 size = lo from fun lo => by simp [rLo, hro])
  clear hz1
  have hro := hide hro
  go_enter Try.func6, Try.ntmps6
  go_wp2_with (first
      | (go_at_call 7; refine (fixed_any w).mono ?_; rintro e w1 ⟨rfl, b1⟩)
      | (go_at_call 8; refine (new_h (Heap.of_grown b1)).mono ?_; rintro e w2 ⟨b, rfl, hJ⟩))
  go_loopw [10] (fun i wr => ∃ (k : Nat) (q : List Int) (lo : Bool), i = .int .i64 k ∧ k ≤ n ∧ Heap w wr [HP.uu b q [] false lo 0]) (fun i _ => n - (intOf i).toNat)
  case atStart => exact ⟨0, [], false, rfl, Nat.zero_le _, hJ⟩
  case round =>
    clear hJ
    obtain ⟨k, q, lo, rfl, hk, hJ⟩ := hrel
    by_cases hlt : k < n
    · obtain ⟨ab, ao, hA, x, hcell, hx0, hx1⟩ := byte_at (unhide HS) hJ.below hlt
      subst hA
      go_wp2_with fail
      refine (give_h hJ x hx0 hx1).mono ?_
      rintro e w4 ⟨rfl, hJ⟩
      go_wp2_with fail
      go_roundw
      case rel => exact ⟨k + 1, _, _, by go_num, by omega, hJ⟩
      case measure => simp [intOf]; omega
    · obtain rfl : n = k := by omega
      go_wp2_with fail
      refine (write_h hJ (by simp) _ _ _ (by omega) (by omega) (by omega)).mono ?_
      rintro e w4 ⟨rfl, hJ⟩
      rw [show wS [] 7 1 90 = [] from rfl, show wWa false 7 1 90 = false from rfl, show wSc 0 7 1 90 = 90 from rfl] at hJ
      go_wp2_with fail
      refine (write_h hJ (by simp) _ _ _ (by omega) (by omega) (by omega)).mono ?_
      rintro e w5 ⟨rfl, hJ⟩
      rw [show wS [] 0 1 120 = [120] from rfl, show wWa false 0 1 120 = false from rfl, show wSc 90 0 1 120 = 90 from rfl] at hJ
      go_wp2_with fail
      refine (copy_h hJ).mono ?_
      rintro e w6 ⟨b', rfl, hJ⟩
      have hJ := hJ.f2
      go_wp2_with fail
      refine (write_same hJ (by simp) _ _ _ ha0 hv0 hv1 (fun h => unhide hno h.1)).mono ?_
      rintro e w7 ⟨rfl, hJ⟩
      rw [unhide hro]
      go_wp2_with fail
      refine (read_same hJ _ _ ha0 (fun h => unhide hno h.1)).mono ?_
      rintro e w8 ⟨x, rfl, hx, hJ⟩
      rw [unhide hro]
      rw [unhide hlo] at hJ
      obtain rfl : x = 0 := hx (unhide hro)
      go_wp2_with fail
      have hJ2 : ∃ lo2 : Bool, Heap w w8 [HP.uu b q [120] false lo2 90, HP.uu b' q [120] false lo2 90] := ⟨_, hJ⟩
      clear hJ
      obtain ⟨lo2, hJ⟩ := hJ2
      go_loopw [16] (fun i wr => ∃ (k : Nat) (q : List Int) (lo : Bool), i = .int .i64 k ∧ k ≤ 18 ∧ Heap w wr [HP.uu b q [120] false lo 90, HP.uu b' q [120] false lo 90]) (fun i _ => 18 - (intOf i).toNat)
      case atStart => exact ⟨0, q, lo2, rfl, Nat.zero_le _, hJ⟩
      case round =>
        clear hJ hlt
        obtain ⟨k, q, lo, rfl, hk, hJ⟩ := hrel
        by_cases hlt : k < 18
        · have hkd : decide ((k : Int) < 18) = true := by simp; omega
          go_wp2
          obtain ⟨wo, rfl⟩ : ∃ wo : World, wo = wr := ⟨_, rfl⟩
          go_loopw [17] (fun i wr => ∃ (j : Nat) (q : List Int) (lo : Bool), i = .int .u64 j ∧ j ≤ 9 ∧ Heap w wr [HP.uu b q [120] false lo 90, HP.uu b' q [120] false lo 90]) (fun i _ => 9 - (intOf i).toNat)
          case atStart => exact ⟨0, q, lo, rfl, Nat.zero_le _, hJ⟩
          case round =>
            clear hJ
            obtain ⟨j, q, lo, rfl, hj, hJ⟩ := hrel
            by_cases hjl : j < 9
            · have j0 : (0 : Int) ≤ (j : Int) := by omega
              go_wp2_with fail
              refine (read_h hJ _ _ j0).mono ?_
              rintro e w11 ⟨rfl, hJ⟩
              have hJ := hJ.f2
              go_wp2_with fail
              refine (read_h hJ _ _ j0).mono ?_
              rintro e w12 ⟨rfl, hJ⟩
              have hJ := hJ.f2
              go_wp2_with fail
              go_roundw
              case rel => exact ⟨j + 1, _, _, by go_num, by omega, hJ⟩
              case measure => simp [intOf]; omega
            · obtain rfl : j = 9 := by omega
              go_wp2_with fail
              go_roundw
              case rel => exact ⟨k + 1, _, _, by go_num, by omega, hJ⟩
              case measure => simp [intOf]; omega
        · obtain rfl : k = 18 := by omega
          go_wp2_with fail
          refine (sent_q hJ (by simp)).mono ?_
          rintro e w13 ⟨v9, rfl, hsl, hg⟩
          have hJ := hJ.grown hg
          have cv := conv_sl hsl
          rw [show strOf [120] = { data := #[120] } from rfl] at cv
          clear hsl hg
          go_wp2_with fail
          refine (up_h hJ).mono ?_
          rintro e w14 ⟨rfl, rfl⟩
          go_wp2_with fail
          refine (up_h hJ.f2).mono ?_
          rintro e w15 ⟨rfl, rfl⟩
          go_wp2_with fail
          go_ret
          exact ⟨by simp, hJ.below⟩

set_option maxRecDepth 100000 in
set_option maxHeartbeats 4000000 in
theorem still_B (A : Option Addr) (n cap : Nat) (at_ size v : Int) (w : World) (hS : SlArg [some .u8] w A n) (hn : n ≤ 140737488355328) (hz : (size == 1) = false) (h5 : (at_ == 5) = false) (ha0 : 0 ≤ (at_ : Int)) (hv0 : 0 ≤ v) (hv1 : v < 18446744073709551616) :
    Calls Try.prog 6 #[.slice A n cap, .int .u64 at_, .int .i64 size, .int .u64 v] w fun e w' => e = .returned (.bool true) ∧ Below w.heap.size w w' := by
  have HS := hide hS
  clear hS
  have hz1 : ¬ size = 1 := beq_eq_false_iff_ne.1 hz
  have hro : rOk at_ size = false := by simp [rOk, hz1]
  have hno := hide hz1
  have hlo := hide (show ∀ lo, rLo lo at_ size = lo from fun lo => by simp [rLo, hro])
  clear hz1
  have hro := hide hro
  go_enter Try.func6, Try.ntmps6
  go_wp2_with (first
      | (go_at_call 7; refine (fixed_any w).mono ?_; rintro e w1 ⟨rfl, b1⟩)
      | (go_at_call 8; refine (new_h (Heap.of_grown b1)).mono ?_; rintro e w2 ⟨b, rfl, hJ⟩))
  go_loopw [10] (fun i wr => ∃ (k : Nat) (q : List Int) (lo : Bool), i = .int .i64 k ∧ k ≤ n ∧ Heap w wr [HP.uu b q [] false lo 0]) (fun i _ => n - (intOf i).toNat)
  case atStart => exact ⟨0, [], false, rfl, Nat.zero_le _, hJ⟩
  case round =>
    clear hJ
    obtain ⟨k, q, lo, rfl, hk, hJ⟩ := hrel
    by_cases hlt : k < n
    · obtain ⟨ab, ao, hA, x, hcell, hx0, hx1⟩ := byte_at (unhide HS) hJ.below hlt
      subst hA
      go_wp2_with fail
      refine (give_h hJ x hx0 hx1).mono ?_
      rintro e w4 ⟨rfl, hJ⟩
      go_wp2_with fail
      go_roundw
      case rel => exact ⟨k + 1, _, _, by go_num, by omega, hJ⟩
      case measure => simp [intOf]; omega
    · obtain rfl : n = k := by omega
      go_wp2_with fail
      refine (write_h hJ (by simp) _ _ _ (by omega) (by omega) (by omega)).mono ?_
      rintro e w4 ⟨rfl, hJ⟩
      rw [show wS [] 7 1 90 = [] from rfl, show wWa false 7 1 90 = false from rfl, show wSc 0 7 1 90 = 90 from rfl] at hJ
      go_wp2_with fail
      refine (write_h hJ (by simp) _ _ _ (by omega) (by omega) (by omega)).mono ?_
      rintro e w5 ⟨rfl, hJ⟩
      rw [show wS [] 0 1 120 = [120] from rfl, show wWa false 0 1 120 = false from rfl, show wSc 90 0 1 120 = 90 from rfl] at hJ
      go_wp2_with fail
      refine (copy_h hJ).mono ?_
      rintro e w6 ⟨b', rfl, hJ⟩
      have hJ := hJ.f2
      go_wp2_with fail
      refine (write_same hJ (by simp) _ _ _ ha0 hv0 hv1 (fun h => unhide hno h.1)).mono ?_
      rintro e w7 ⟨rfl, hJ⟩
      rw [unhide hro]
      go_wp2_with fail
      refine (read_same hJ _ _ ha0 (fun h => unhide hno h.1)).mono ?_
      rintro e w8 ⟨x, rfl, hx, hJ⟩
      rw [unhide hro]
      rw [unhide hlo] at hJ
      obtain rfl : x = 0 := hx (unhide hro)
      go_wp2_with fail
      have hJ2 : ∃ lo2 : Bool, Heap w w8 [HP.uu b q [120] false lo2 90, HP.uu b' q [120] false lo2 90] := ⟨_, hJ⟩
      clear hJ
      obtain ⟨lo2, hJ⟩ := hJ2
      go_loopw [16] (fun i wr => ∃ (k : Nat) (q : List Int) (lo : Bool), i = .int .i64 k ∧ k ≤ 18 ∧ Heap w wr [HP.uu b q [120] false lo 90, HP.uu b' q [120] false lo 90]) (fun i _ => 18 - (intOf i).toNat)
      case atStart => exact ⟨0, q, lo2, rfl, Nat.zero_le _, hJ⟩
      case round =>
        clear hJ hlt
        obtain ⟨k, q, lo, rfl, hk, hJ⟩ := hrel
        by_cases hlt : k < 18
        · have hkd : decide ((k : Int) < 18) = true := by simp; omega
          go_wp2
          obtain ⟨wo, rfl⟩ : ∃ wo : World, wo = wr := ⟨_, rfl⟩
          go_loopw [17] (fun i wr => ∃ (j : Nat) (q : List Int) (lo : Bool), i = .int .u64 j ∧ j ≤ 9 ∧ Heap w wr [HP.uu b q [120] false lo 90, HP.uu b' q [120] false lo 90]) (fun i _ => 9 - (intOf i).toNat)
          case atStart => exact ⟨0, q, lo, rfl, Nat.zero_le _, hJ⟩
          case round =>
            clear hJ
            obtain ⟨j, q, lo, rfl, hj, hJ⟩ := hrel
            by_cases hjl : j < 9
            · have j0 : (0 : Int) ≤ (j : Int) := by omega
              go_wp2_with fail
              refine (read_h hJ _ _ j0).mono ?_
              rintro e w11 ⟨rfl, hJ⟩
              have hJ := hJ.f2
              go_wp2_with fail
              refine (read_h hJ _ _ j0).mono ?_
              rintro e w12 ⟨rfl, hJ⟩
              have hJ := hJ.f2
              go_wp2_with fail
              go_roundw
              case rel => exact ⟨j + 1, _, _, by go_num, by omega, hJ⟩
              case measure => simp [intOf]; omega
            · obtain rfl : j = 9 := by omega
              go_wp2_with fail
              go_roundw
              case rel => exact ⟨k + 1, _, _, by go_num, by omega, hJ⟩
              case measure => simp [intOf]; omega
        · obtain rfl : k = 18 := by omega
          go_wp2_with fail
          refine (sent_q hJ (by simp)).mono ?_
          rintro e w13 ⟨v9, rfl, hsl, hg⟩
          have hJ := hJ.grown hg
          have cv := conv_sl hsl
          rw [show strOf [120] = { data := #[120] } from rfl] at cv
          clear hsl hg
          go_wp2_with fail
          refine (up_h hJ).mono ?_
          rintro e w14 ⟨rfl, rfl⟩
          go_wp2_with fail
          refine (up_h hJ.f2).mono ?_
          rintro e w15 ⟨rfl, rfl⟩
          go_wp2_with fail
          go_ret
          exact ⟨by simp, hJ.below⟩

set_option maxRecDepth 100000 in
set_option maxHeartbeats 4000000 in
theorem still_C (A : Option Addr) (n cap : Nat) (v : Int) (w : World) (hS : SlArg [some .u8] w A n) (hn : n ≤ 140737488355328) (ha0 : 0 ≤ (5 : Int)) (hv0 : 0 ≤ v) (hv1 : v < 18446744073709551616) :
    Calls Try.prog 6 #[.slice A n cap, .int .u64 5, .int .i64 1, .int .u64 v] w fun e w' => e = .returned (.bool true) ∧ Below w.heap.size w w' := by
  have HS := hide hS
  clear hS
  have hro : rOk 5 1 = true := by simp [rOk]
  have hro := hide hro
  go_enter Try.func6, Try.ntmps6
  go_wp2_with (first
      | (go_at_call 7; refine (fixed_any w).mono ?_; rintro e w1 ⟨rfl, b1⟩)
      | (go_at_call 8; refine (new_h (Heap.of_grown b1)).mono ?_; rintro e w2 ⟨b, rfl, hJ⟩))
  go_loopw [10] (fun i wr => ∃ (k : Nat) (q : List Int) (lo : Bool), i = .int .i64 k ∧ k ≤ n ∧ Heap w wr [HP.uu b q [] false lo 0]) (fun i _ => n - (intOf i).toNat)
  case atStart => exact ⟨0, [], false, rfl, Nat.zero_le _, hJ⟩
  case round =>
    clear hJ
    obtain ⟨k, q, lo, rfl, hk, hJ⟩ := hrel
    by_cases hlt : k < n
    · obtain ⟨ab, ao, hA, x, hcell, hx0, hx1⟩ := byte_at (unhide HS) hJ.below hlt
      subst hA
      go_wp2_with fail
      refine (give_h hJ x hx0 hx1).mono ?_
      rintro e w4 ⟨rfl, hJ⟩
      go_wp2_with fail
      go_roundw
      case rel => exact ⟨k + 1, _, _, by go_num, by omega, hJ⟩
      case measure => simp [intOf]; omega
    · obtain rfl : n = k := by omega
      go_wp2_with fail
      refine (write_h hJ (by simp) _ _ _ (by omega) (by omega) (by omega)).mono ?_
      rintro e w4 ⟨rfl, hJ⟩
      rw [show wS [] 7 1 90 = [] from rfl, show wWa false 7 1 90 = false from rfl, show wSc 0 7 1 90 = 90 from rfl] at hJ
      go_wp2_with fail
      refine (write_h hJ (by simp) _ _ _ (by omega) (by omega) (by omega)).mono ?_
      rintro e w5 ⟨rfl, hJ⟩
      rw [show wS [] 0 1 120 = [120] from rfl, show wWa false 0 1 120 = false from rfl, show wSc 90 0 1 120 = 90 from rfl] at hJ
      go_wp2_with fail
      refine (copy_h hJ).mono ?_
      rintro e w6 ⟨b', rfl, hJ⟩
      have hJ := hJ.f2
      go_wp2_with fail
      refine (write_same hJ (by simp) _ _ _ ha0 hv0 hv1 (by omega)).mono ?_
      rintro e w7 ⟨rfl, hJ⟩
      rw [unhide hro]
      go_wp2_with fail
      refine (read_same hJ _ _ ha0 (by omega)).mono ?_
      rintro e w8 ⟨x, rfl, hx, hJ⟩
      rw [unhide hro]
      skip
      clear hx
      go_wp2_with fail
      refine (read_same hJ.f2 _ _ (by omega) (by omega)).mono ?_
      rintro e w9 ⟨x9, rfl, _, hJ⟩
      have hJ := hJ.f2
      go_wp2_with fail
      have hJ2 : ∃ lo2 : Bool, Heap w w9 [HP.uu b q [120] false lo2 90, HP.uu b' q [120] false lo2 90] := ⟨_, hJ⟩
      clear hJ
      obtain ⟨lo2, hJ⟩ := hJ2
      go_loopw [16] (fun i wr => ∃ (k : Nat) (q : List Int) (lo : Bool), i = .int .i64 k ∧ k ≤ 18 ∧ Heap w wr [HP.uu b q [120] false lo 90, HP.uu b' q [120] false lo 90]) (fun i _ => 18 - (intOf i).toNat)
      case atStart => exact ⟨0, q, lo2, rfl, Nat.zero_le _, hJ⟩
      case round =>
        clear hJ hlt
        obtain ⟨k, q, lo, rfl, hk, hJ⟩ := hrel
        by_cases hlt : k < 18
        · have hkd : decide ((k : Int) < 18) = true := by simp; omega
          go_wp2
          obtain ⟨wo, rfl⟩ : ∃ wo : World, wo = wr := ⟨_, rfl⟩
          go_loopw [17] (fun i wr => ∃ (j : Nat) (q : List Int) (lo : Bool), i = .int .u64 j ∧ j ≤ 9 ∧ Heap w wr [HP.uu b q [120] false lo 90, HP.uu b' q [120] false lo 90]) (fun i _ => 9 - (intOf i).toNat)
          case atStart => exact ⟨0, q, lo, rfl, Nat.zero_le _, hJ⟩
          case round =>
            clear hJ
            obtain ⟨j, q, lo, rfl, hj, hJ⟩ := hrel
            by_cases hjl : j < 9
            · have j0 : (0 : Int) ≤ (j : Int) := by omega
              go_wp2_with fail
              refine (read_h hJ _ _ j0).mono ?_
              rintro e w11 ⟨rfl, hJ⟩
              have hJ := hJ.f2
              go_wp2_with fail
              refine (read_h hJ _ _ j0).mono ?_
              rintro e w12 ⟨rfl, hJ⟩
              have hJ := hJ.f2
              go_wp2_with fail
              go_roundw
              case rel => exact ⟨j + 1, _, _, by go_num, by omega, hJ⟩
              case measure => simp [intOf]; omega
            · obtain rfl : j = 9 := by omega
              go_wp2_with fail
              go_roundw
              case rel => exact ⟨k + 1, _, _, by go_num, by omega, hJ⟩
              case measure => simp [intOf]; omega
        · obtain rfl : k = 18 := by omega
          go_wp2_with fail
          refine (sent_q hJ (by simp)).mono ?_
          rintro e w13 ⟨v9, rfl, hsl, hg⟩
          have hJ := hJ.grown hg
          have cv := conv_sl hsl
          rw [show strOf [120] = { data := #[120] } from rfl] at cv
          clear hsl hg
          go_wp2_with fail
          refine (up_h hJ).mono ?_
          rintro e w14 ⟨rfl, rfl⟩
          go_wp2_with fail
          refine (up_h hJ.f2).mono ?_
          rintro e w15 ⟨rfl, rfl⟩
          go_wp2_with fail
          go_ret
          exact ⟨by simp, hJ.below⟩

set_option maxRecDepth 100000 in
set_option maxHeartbeats 4000000 in
theorem still_D (A : Option Addr) (n cap : Nat) (at_ v : Int) (w : World) (hS : SlArg [some .u8] w A n) (hn : n ≤ 140737488355328) (g0 : (at_ == 0) = false) (g1 : (at_ == 1) = false) (g7 : (at_ == 7) = false) (h5 : (at_ == 5) = false) (h8 : at_ < 8) (ha0 : 0 ≤ (at_ : Int)) (hv0 : 0 ≤ v) (hv1 : v < 18446744073709551616) :
    Calls Try.prog 6 #[.slice A n cap, .int .u64 at_, .int .i64 1, .int .u64 v] w fun e w' => e = .returned (.bool true) ∧ Below w.heap.size w w' := by
  have HS := hide hS
  clear hS
  have hro : rOk at_ 1 = true := by simp [rOk]; omega
  have hno : ¬ (at_ = 0 ∨ at_ = 1 ∨ at_ = 7) := by simp only [beq_eq_false_iff_ne] at g0 g1 g7; omega
  have h5' : ¬ at_ = 5 := beq_eq_false_iff_ne.1 h5
  have hlo := hide (show ∀ lo, rLo lo at_ 1 = lo from fun lo => by simp [rLo, h5'])
  clear h5'
  have hno := hide hno
  have hro := hide hro
  go_enter Try.func6, Try.ntmps6
  go_wp2_with (first
      | (go_at_call 7; refine (fixed_any w).mono ?_; rintro e w1 ⟨rfl, b1⟩)
      | (go_at_call 8; refine (new_h (Heap.of_grown b1)).mono ?_; rintro e w2 ⟨b, rfl, hJ⟩))
  go_loopw [10] (fun i wr => ∃ (k : Nat) (q : List Int) (lo : Bool), i = .int .i64 k ∧ k ≤ n ∧ Heap w wr [HP.uu b q [] false lo 0]) (fun i _ => n - (intOf i).toNat)
  case atStart => exact ⟨0, [], false, rfl, Nat.zero_le _, hJ⟩
  case round =>
    clear hJ
    obtain ⟨k, q, lo, rfl, hk, hJ⟩ := hrel
    by_cases hlt : k < n
    · obtain ⟨ab, ao, hA, x, hcell, hx0, hx1⟩ := byte_at (unhide HS) hJ.below hlt
      subst hA
      go_wp2_with fail
      refine (give_h hJ x hx0 hx1).mono ?_
      rintro e w4 ⟨rfl, hJ⟩
      go_wp2_with fail
      go_roundw
      case rel => exact ⟨k + 1, _, _, by go_num, by omega, hJ⟩
      case measure => simp [intOf]; omega
    · obtain rfl : n = k := by omega
      go_wp2_with fail
      refine (write_h hJ (by simp) _ _ _ (by omega) (by omega) (by omega)).mono ?_
      rintro e w4 ⟨rfl, hJ⟩
      rw [show wS [] 7 1 90 = [] from rfl, show wWa false 7 1 90 = false from rfl, show wSc 0 7 1 90 = 90 from rfl] at hJ
      go_wp2_with fail
      refine (write_h hJ (by simp) _ _ _ (by omega) (by omega) (by omega)).mono ?_
      rintro e w5 ⟨rfl, hJ⟩
      rw [show wS [] 0 1 120 = [120] from rfl, show wWa false 0 1 120 = false from rfl, show wSc 90 0 1 120 = 90 from rfl] at hJ
      go_wp2_with fail
      refine (copy_h hJ).mono ?_
      rintro e w6 ⟨b', rfl, hJ⟩
      have hJ := hJ.f2
      go_wp2_with fail
      refine (write_same hJ (by simp) _ _ _ ha0 hv0 hv1 (fun h => unhide hno h.2)).mono ?_
      rintro e w7 ⟨rfl, hJ⟩
      rw [unhide hro]
      go_wp2_with fail
      refine (read_same hJ _ _ ha0 (fun h => unhide hno h.2)).mono ?_
      rintro e w8 ⟨x, rfl, hx, hJ⟩
      rw [unhide hro]
      rw [unhide hlo] at hJ
      clear hx
      go_wp2_with fail
      have hJ2 : ∃ lo2 : Bool, Heap w w8 [HP.uu b q [120] false lo2 90, HP.uu b' q [120] false lo2 90] := ⟨_, hJ⟩
      clear hJ
      obtain ⟨lo2, hJ⟩ := hJ2
      go_loopw [16] (fun i wr => ∃ (k : Nat) (q : List Int) (lo : Bool), i = .int .i64 k ∧ k ≤ 18 ∧ Heap w wr [HP.uu b q [120] false lo 90, HP.uu b' q [120] false lo 90]) (fun i _ => 18 - (intOf i).toNat)
      case atStart => exact ⟨0, q, lo2, rfl, Nat.zero_le _, hJ⟩
      case round =>
        clear hJ hlt
        obtain ⟨k, q, lo, rfl, hk, hJ⟩ := hrel
        by_cases hlt : k < 18
        · have hkd : decide ((k : Int) < 18) = true := by simp; omega
          go_wp2
          obtain ⟨wo, rfl⟩ : ∃ wo : World, wo = wr := ⟨_, rfl⟩
          go_loopw [17] (fun i wr => ∃ (j : Nat) (q : List Int) (lo : Bool), i = .int .u64 j ∧ j ≤ 9 ∧ Heap w wr [HP.uu b q [120] false lo 90, HP.uu b' q [120] false lo 90]) (fun i _ => 9 - (intOf i).toNat)
          case atStart => exact ⟨0, q, lo, rfl, Nat.zero_le _, hJ⟩
          case round =>
            clear hJ
            obtain ⟨j, q, lo, rfl, hj, hJ⟩ := hrel
            by_cases hjl : j < 9
            · have j0 : (0 : Int) ≤ (j : Int) := by omega
              go_wp2_with fail
              refine (read_h hJ _ _ j0).mono ?_
              rintro e w11 ⟨rfl, hJ⟩
              have hJ := hJ.f2
              go_wp2_with fail
              refine (read_h hJ _ _ j0).mono ?_
              rintro e w12 ⟨rfl, hJ⟩
              have hJ := hJ.f2
              go_wp2_with fail
              go_roundw
              case rel => exact ⟨j + 1, _, _, by go_num, by omega, hJ⟩
              case measure => simp [intOf]; omega
            · obtain rfl : j = 9 := by omega
              go_wp2_with fail
              go_roundw
              case rel => exact ⟨k + 1, _, _, by go_num, by omega, hJ⟩
              case measure => simp [intOf]; omega
        · obtain rfl : k = 18 := by omega
          go_wp2_with fail
          refine (sent_q hJ (by simp)).mono ?_
          rintro e w13 ⟨v9, rfl, hsl, hg⟩
          have hJ := hJ.grown hg
          have cv := conv_sl hsl
          rw [show strOf [120] = { data := #[120] } from rfl] at cv
          clear hsl hg
          go_wp2_with fail
          refine (up_h hJ).mono ?_
          rintro e w14 ⟨rfl, rfl⟩
          go_wp2_with fail
          refine (up_h hJ.f2).mono ?_
          rintro e w15 ⟨rfl, rfl⟩
          go_wp2_with fail
          go_ret
          exact ⟨by simp, hJ.below⟩

set_option maxRecDepth 100000 in
set_option maxHeartbeats 4000000 in
theorem still_E (A : Option Addr) (n cap : Nat) (at_ v : Int) (w : World) (hS : SlArg [some .u8] w A n) (hn : n ≤ 140737488355328) (g0 : (at_ == 0) = false) (g1 : (at_ == 1) = false) (g7 : (at_ == 7) = false) (h5 : (at_ == 5) = false) (h8 : 8 ≤ at_) (ha0 : 0 ≤ (at_ : Int)) (hv0 : 0 ≤ v) (hv1 : v < 18446744073709551616) :
    Calls Try.prog 6 #[.slice A n cap, .int .u64 at_, .int .i64 1, .int .u64 v] w fun e w' => e = .returned (.bool true) ∧ Below w.heap.size w w' := by
  have HS := hide hS
  clear hS
  have hro : rOk at_ 1 = false := by simp [rOk]; omega
  have hno : ¬ (at_ = 0 ∨ at_ = 1 ∨ at_ = 7) := by omega
  have hlo := hide (show ∀ lo, rLo lo at_ 1 = lo from fun lo => by simp [rLo, hro])
  have hno := hide hno
  have hro := hide hro
  go_enter Try.func6, Try.ntmps6
  go_wp2_with (first
      | (go_at_call 7; refine (fixed_any w).mono ?_; rintro e w1 ⟨rfl, b1⟩)
      | (go_at_call 8; refine (new_h (Heap.of_grown b1)).mono ?_; rintro e w2 ⟨b, rfl, hJ⟩))
  go_loopw [10] (fun i wr => ∃ (k : Nat) (q : List Int) (lo : Bool), i = .int .i64 k ∧ k ≤ n ∧ Heap w wr [HP.uu b q [] false lo 0]) (fun i _ => n - (intOf i).toNat)
  case atStart => exact ⟨0, [], false, rfl, Nat.zero_le _, hJ⟩
  case round =>
    clear hJ
    obtain ⟨k, q, lo, rfl, hk, hJ⟩ := hrel
    by_cases hlt : k < n
    · obtain ⟨ab, ao, hA, x, hcell, hx0, hx1⟩ := byte_at (unhide HS) hJ.below hlt
      subst hA
      go_wp2_with fail
      refine (give_h hJ x hx0 hx1).mono ?_
      rintro e w4 ⟨rfl, hJ⟩
      go_wp2_with fail
      go_roundw
      case rel => exact ⟨k + 1, _, _, by go_num, by omega, hJ⟩
      case measure => simp [intOf]; omega
    · obtain rfl : n = k := by omega
      go_wp2_with fail
      refine (write_h hJ (by simp) _ _ _ (by omega) (by omega) (by omega)).mono ?_
      rintro e w4 ⟨rfl, hJ⟩
      rw [show wS [] 7 1 90 = [] from rfl, show wWa false 7 1 90 = false from rfl, show wSc 0 7 1 90 = 90 from rfl] at hJ
      go_wp2_with fail
      refine (write_h hJ (by simp) _ _ _ (by omega) (by omega) (by omega)).mono ?_
      rintro e w5 ⟨rfl, hJ⟩
      rw [show wS [] 0 1 120 = [120] from rfl, show wWa false 0 1 120 = false from rfl, show wSc 90 0 1 120 = 90 from rfl] at hJ
      go_wp2_with fail
      refine (copy_h hJ).mono ?_
      rintro e w6 ⟨b', rfl, hJ⟩
      have hJ := hJ.f2
      go_wp2_with fail
      refine (write_same hJ (by simp) _ _ _ ha0 hv0 hv1 (fun h => unhide hno h.2)).mono ?_
      rintro e w7 ⟨rfl, hJ⟩
      rw [unhide hro]
      go_wp2_with fail
      refine (read_same hJ _ _ ha0 (fun h => unhide hno h.2)).mono ?_
      rintro e w8 ⟨x, rfl, hx, hJ⟩
      rw [unhide hro]
      rw [unhide hlo] at hJ
      obtain rfl : x = 0 := hx (unhide hro)
      go_wp2_with fail
      have hJ2 : ∃ lo2 : Bool, Heap w w8 [HP.uu b q [120] false lo2 90, HP.uu b' q [120] false lo2 90] := ⟨_, hJ⟩
      clear hJ
      obtain ⟨lo2, hJ⟩ := hJ2
      go_loopw [16] (fun i wr => ∃ (k : Nat) (q : List Int) (lo : Bool), i = .int .i64 k ∧ k ≤ 18 ∧ Heap w wr [HP.uu b q [120] false lo 90, HP.uu b' q [120] false lo 90]) (fun i _ => 18 - (intOf i).toNat)
      case atStart => exact ⟨0, q, lo2, rfl, Nat.zero_le _, hJ⟩
      case round =>
        clear hJ hlt
        obtain ⟨k, q, lo, rfl, hk, hJ⟩ := hrel
        by_cases hlt : k < 18
        · have hkd : decide ((k : Int) < 18) = true := by simp; omega
          go_wp2
          obtain ⟨wo, rfl⟩ : ∃ wo : World, wo = wr := ⟨_, rfl⟩
          go_loopw [17] (fun i wr => ∃ (j : Nat) (q : List Int) (lo : Bool), i = .int .u64 j ∧ j ≤ 9 ∧ Heap w wr [HP.uu b q [120] false lo 90, HP.uu b' q [120] false lo 90]) (fun i _ => 9 - (intOf i).toNat)
          case atStart => exact ⟨0, q, lo, rfl, Nat.zero_le _, hJ⟩
          case round =>
            clear hJ
            obtain ⟨j, q, lo, rfl, hj, hJ⟩ := hrel
            by_cases hjl : j < 9
            · have j0 : (0 : Int) ≤ (j : Int) := by omega
              go_wp2_with fail
              refine (read_h hJ _ _ j0).mono ?_
              rintro e w11 ⟨rfl, hJ⟩
              have hJ := hJ.f2
              go_wp2_with fail
              refine (read_h hJ _ _ j0).mono ?_
              rintro e w12 ⟨rfl, hJ⟩
              have hJ := hJ.f2
              go_wp2_with fail
              go_roundw
              case rel => exact ⟨j + 1, _, _, by go_num, by omega, hJ⟩
              case measure => simp [intOf]; omega
            · obtain rfl : j = 9 := by omega
              go_wp2_with fail
              go_roundw
              case rel => exact ⟨k + 1, _, _, by go_num, by omega, hJ⟩
              case measure => simp [intOf]; omega
        · obtain rfl : k = 18 := by omega
          go_wp2_with fail
          refine (sent_q hJ (by simp)).mono ?_
          rintro e w13 ⟨v9, rfl, hsl, hg⟩
          have hJ := hJ.grown hg
          have cv := conv_sl hsl
          rw [show strOf [120] = { data := #[120] } from rfl] at cv
          clear hsl hg
          go_wp2_with fail
          refine (up_h hJ).mono ?_
          rintro e w14 ⟨rfl, rfl⟩
          go_wp2_with fail
          refine (up_h hJ.f2).mono ?_
          rintro e w15 ⟨rfl, rfl⟩
          go_wp2_with fail
          go_ret
          exact ⟨by simp, hJ.below⟩

theorem still_walk (A : Option Addr) (n cap : Nat) (at_ size v : Int) (w : World) (hS : SlArg [some .u8] w A n) (hn : n ≤ 140737488355328) (ha0 : 0 ≤ at_) (hv0 : 0 ≤ v) (hv1 : v < 18446744073709551616) :
    Calls Try.prog 6 #[.slice A n cap, .int .u64 at_, .int .i64 size, .int .u64 v] w fun e w' => e = .returned (.bool true) ∧ Below w.heap.size w w' := by
  by_cases hz : size = 1
  · subst hz
    by_cases h : at_ = 0 ∨ at_ = 1 ∨ at_ = 7
    · exact still_yes _ _ _ _ h
    · by_cases h5 : at_ = 5
      · subst h5
        exact still_C A n cap v w hS hn ha0 hv0 hv1
      · have g0 : (at_ == 0) = false := beq_eq_false_iff_ne.2 (by omega)
        have g1 : (at_ == 1) = false := beq_eq_false_iff_ne.2 (by omega)
        have g7 : (at_ == 7) = false := beq_eq_false_iff_ne.2 (by omega)
        have g5 : (at_ == 5) = false := beq_eq_false_iff_ne.2 (by omega)
        by_cases h8 : at_ < 8
        · exact still_D A n cap at_ v w hS hn g0 g1 g7 g5 h8 ha0 hv0 hv1
        · exact still_E A n cap at_ v w hS hn g0 g1 g7 g5 (by omega) ha0 hv0 hv1
  · have z : (size == 1) = false := beq_eq_false_iff_ne.2 hz
    by_cases h5 : at_ = 5
    · subst h5
      exact still_A A n cap size v w hS hn z ha0 hv0 hv1
    · exact still_B A n cap at_ size v w hS hn z (beq_eq_false_iff_ne.2 h5) ha0 hv0 hv1
end Go.Proofs.Ytaholijnfekkgaa
