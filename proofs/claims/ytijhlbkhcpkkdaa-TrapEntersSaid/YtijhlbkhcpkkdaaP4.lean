/- Layer 13: Pending, Waits. -/
import Derived.Test.YtijhlbkhcpkkdaaP3
namespace Go.Proofs.Ytijhlbkhcpkkdaa
open Go.RowKit

def pp (c : St) (lines : Int) : Int := bits .and .u64 (bits .or .u64 (c 5) (bits .and .u64 lines 2696)) (c 4)
def pk (c : St) (mode lines : Int) : Int := if known mode = 3 ∧ bits .and .u64 (c 0) 8 = 0 then 0 else bits .andNot .u64 (pp c lines) (c 3)
def pg (c : St) (mode lines : Int) : Int := if known mode = 3 ∨ (known mode = 1 ∧ bits .and .u64 (c 0) 2 = 0) then 0 else bits .and .u64 (pp c lines) (c 3)
def rkAt (j : Nat) : Nat := [11, 3, 7, 9, 1, 5].getD j 0
/-- The first of the ranks from j on whose bit stands. -/
def firstIn (l : Int) : Option Nat := [11, 3, 7, 9, 1, 5].find? fun n => decide (l / 2 ^ n % 2 = 1)
def pend (k g : Int) : Option Nat := (firstIn k).or (firstIn g)
def pVal : Option Nat → Int
  | some n => 9223372036854775808 + n
  | none => 0
theorem first_at (l : Int) (j : Nat) (hj : j < 6) (h : ∀ m, m < j → ¬ (l / 2 ^ rkAt m % 2 = 1)) (hb : l / 2 ^ rkAt j % 2 = 1) : firstIn l = some (rkAt j) := by
  have h6 : j = 0 ∨ j = 1 ∨ j = 2 ∨ j = 3 ∨ j = 4 ∨ j = 5 := by omega
  unfold firstIn
  rcases h6 with rfl | rfl | rfl | rfl | rfl | rfl
  · have a0 : l / 2 ^ 11 % 2 = 1 := hb
    simp only [List.find?, a0, decide_true]; rfl
  · have a0 : ¬ (l / 2 ^ 11 % 2 = 1) := h 0 (by omega)
    have a1 : l / 2 ^ 3 % 2 = 1 := hb
    simp only [List.find?, a0, a1, decide_true, decide_false]; rfl
  · have a0 : ¬ (l / 2 ^ 11 % 2 = 1) := h 0 (by omega)
    have a1 : ¬ (l / 2 ^ 3 % 2 = 1) := h 1 (by omega)
    have a2 : l / 2 ^ 7 % 2 = 1 := hb
    simp only [List.find?, a0, a1, a2, decide_true, decide_false]; rfl
  · have a0 : ¬ (l / 2 ^ 11 % 2 = 1) := h 0 (by omega)
    have a1 : ¬ (l / 2 ^ 3 % 2 = 1) := h 1 (by omega)
    have a2 : ¬ (l / 2 ^ 7 % 2 = 1) := h 2 (by omega)
    have a3 : l / 2 ^ 9 % 2 = 1 := hb
    simp only [List.find?, a0, a1, a2, a3, decide_true, decide_false]; rfl
  · have a0 : ¬ (l / 2 ^ 11 % 2 = 1) := h 0 (by omega)
    have a1 : ¬ (l / 2 ^ 3 % 2 = 1) := h 1 (by omega)
    have a2 : ¬ (l / 2 ^ 7 % 2 = 1) := h 2 (by omega)
    have a3 : ¬ (l / 2 ^ 9 % 2 = 1) := h 3 (by omega)
    have a4 : l / 2 ^ 1 % 2 = 1 := hb
    simp only [List.find?, a0, a1, a2, a3, a4, decide_true, decide_false]; rfl
  · have a0 : ¬ (l / 2 ^ 11 % 2 = 1) := h 0 (by omega)
    have a1 : ¬ (l / 2 ^ 3 % 2 = 1) := h 1 (by omega)
    have a2 : ¬ (l / 2 ^ 7 % 2 = 1) := h 2 (by omega)
    have a3 : ¬ (l / 2 ^ 9 % 2 = 1) := h 3 (by omega)
    have a4 : ¬ (l / 2 ^ 1 % 2 = 1) := h 4 (by omega)
    have a5 : l / 2 ^ 5 % 2 = 1 := hb
    simp only [List.find?, a0, a1, a2, a3, a4, a5, decide_true, decide_false]; rfl
theorem first_none (l : Int) (h : ∀ m, m < 6 → ¬ (l / 2 ^ rkAt m % 2 = 1)) : firstIn l = none := by
  have a0 : ¬ (l / 2 ^ 11 % 2 = 1) := h 0 (by omega)
  have a1 : ¬ (l / 2 ^ 3 % 2 = 1) := h 1 (by omega)
  have a2 : ¬ (l / 2 ^ 7 % 2 = 1) := h 2 (by omega)
  have a3 : ¬ (l / 2 ^ 9 % 2 = 1) := h 3 (by omega)
  have a4 : ¬ (l / 2 ^ 1 % 2 = 1) := h 4 (by omega)
  have a5 : ¬ (l / 2 ^ 5 % 2 = 1) := h 5 (by omega)
  unfold firstIn
  simp only [List.find?, a0, a1, a2, a3, a4, a5, decide_false]
theorem or_bd (x y : Int) (x0 : 0 ≤ x) (x1 : x < 18446744073709551616) (y0 : 0 ≤ y) (y1 : y < 18446744073709551616) : 0 ≤ bits .or .u64 x y ∧ bits .or .u64 x y < 18446744073709551616 := by
  rw [u64_or x y x0 x1 y0 y1]
  have := Nat.or_lt_two_pow (x := x.toNat) (y := y.toNat) (n := 64) (by omega) (by omega)
  omega
theorem andNot_bd (x y : Int) (x0 : 0 ≤ x) (x1 : x < 18446744073709551616) (y0 : 0 ≤ y) (y1 : y < 18446744073709551616) : 0 ≤ bits .andNot .u64 x y ∧ bits .andNot .u64 x y < 18446744073709551616 := by
  rw [u64_andNot x y x0 x1 y0 y1]
  have : x.toNat &&& (18446744073709551615 - y.toNat) ≤ x.toNat := Nat.and_le_left
  omega
theorem pp_bd {c : St} (hI : GI c) {lines : Int} (l0 : 0 ≤ lines) (l1 : lines < 18446744073709551616) : 0 ≤ pp c lines ∧ pp c lines < 18446744073709551616 := by
  obtain ⟨a0, a1⟩ := hI.r 5 (by omega)
  obtain ⟨b0, b1⟩ := hI.r 4 (by omega)
  have h1 := and_bd lines 2696 l0 l1 (by decide) (by decide)
  have h2 := or_bd (c 5) (bits .and .u64 lines 2696) a0 a1 h1.1 (by omega)
  have h3 := and_bd (bits .or .u64 (c 5) (bits .and .u64 lines 2696)) (c 4) h2.1 h2.2 b0 b1
  unfold pp
  omega
section
variable {w0 w : World} {L : List HP} {c : St} {b : Nat}
theorem rank_any (w : World) : Calls Try.prog 21 #[] w fun r w' => r = .returned (.agg #[.int .u64 11, .int .u64 3, .int .u64 7, .int .u64 9, .int .u64 1, .int .u64 5]) ∧ GN w w' := by
  go_enter Try.func21, Try.ntmps21
  go_wp2
  exact bodyPost_ret (v := .agg #[.int .u64 11, .int .u64 3, .int .u64 7, .int .u64 9, .int .u64 1, .int .u64 5]) (by simp [results, Try.results21, go_sem]) rfl ⟨rfl, by repeat (first | exact GN.refl _ | refine GN.alloc ?_ _ | refine GN.set ?_ (by simp) _ _)⟩
set_option maxRecDepth 100000 in
set_option maxHeartbeats 2000000 in
theorem waits_h (h : Heap w0 w L) (hI : GI c) (lines : Int) (l0 : 0 ≤ lines) (l1 : lines < 18446744073709551616) :
    Calls Try.prog 14 #[.agg (gl c).toArray, .int .u64 lines] w fun r w' => r = .returned (.bool (pp c lines == 0)) ∧ Heap w0 w' L := by
  have JA := h.new (gl c).toArray 26
  go_enter Try.func14, Try.ntmps14
  go_upto_region 1 with fail
  generalize hw1 : (w.alloc (Obj.cells (gl c).toArray 26)) = w1 at *
  clear hw1
  have hlt := lt_of_heap' JA.heap
  have d5 := (gcell JA.heap (i := 5) (by omega)).1
  rw [show gk 5 = .u64 from rfl] at d5
  have d4 := (gcell JA.heap (i := 4) (by omega)).1
  rw [show gk 4 = .u64 from rfl] at d4
  go_wp2
  go_ret
  exact ⟨rfl, JA.tail⟩
set_option maxRecDepth 100000 in
set_option maxHeartbeats 2000000 in
theorem pending_h (h : Heap w0 w L) (hI : GI c) (mode lines : Int) (l0 : 0 ≤ lines) (l1 : lines < 18446744073709551616) :
    Calls Try.prog 13 #[.agg (gl c).toArray, .int .i64 mode, .int .u64 lines] w fun r w' => r = .returned (.tuple #[.int .u64 (pVal (pend (pk c mode lines) (pg c mode lines))), .bool (pend (pk c mode lines) (pg c mode lines)).isSome]) ∧ Heap w0 w' L := by
  have JA := h.new (gl c).toArray 26
  obtain ⟨b, hb⟩ : ∃ b, w.heap.size = b := ⟨_, rfl⟩
  rw [hb] at JA
  have hkc := known_cases mode
  go_enter Try.func13, Try.ntmps13
  go_wp2_with fail
  refine (known_any mode _).mono ?_
  rintro r w1 ⟨rfl, hw⟩
  rw [← hw] at JA
  clear hw hb
  have hlt := lt_of_heap' JA.heap
  have d0 := (gcell JA.heap (i := 0) (by omega)).1
  rw [show gk 0 = .u64 from rfl] at d0
  have d3 := (gcell JA.heap (i := 3) (by omega)).1
  rw [show gk 3 = .u64 from rfl] at d3
  have d5 := (gcell JA.heap (i := 5) (by omega)).1
  rw [show gk 5 = .u64 from rfl] at d5
  have d4 := (gcell JA.heap (i := 4) (by omega)).1
  rw [show gk 4 = .u64 from rfl] at d4
  go_upto_region 3 with fail
  have hpp : bits .and .u64 (bits .or .u64 (c 5) (bits .and .u64 lines 2696)) (c 4) = pp c lines := rfl
  rw [hpp]
  clear hpp
  go_quiet (fail)
  have JB := JA.drewN nq
  clear d0 d3 d4 d5 JA hlt
  generalize w1.drewN nq = w2 at *
  have hlt := lt_of_heap' JB.heap
  have d0 := (gcell JB.heap (i := 0) (by omega)).1
  rw [show gk 0 = .u64 from rfl] at d0
  obtain ⟨kp, hkp⟩ : ∃ x, bits .andNot .u64 (pp c lines) (c 3) = x := ⟨_, rfl⟩
  obtain ⟨gp, hgp⟩ : ∃ x, bits .and .u64 (pp c lines) (c 3) = x := ⟨_, rfl⟩
  obtain ⟨km, hkm⟩ : ∃ x, known mode = x := ⟨_, rfl⟩
  have Hpk := hide (show pk c mode lines = if km = 3 ∧ bits .and .u64 (c 0) 8 = 0 then 0 else kp from by unfold pk; rw [hkm, hkp])
  have Hpg := hide (show pg c mode lines = if km = 3 ∨ (km = 1 ∧ bits .and .u64 (c 0) 2 = 0) then 0 else gp from by unfold pg; rw [hkm, hgp])
  rw [hkm]
  clear hkc
  rw [hkp, hgp]
  have hkb : 0 ≤ kp ∧ kp < 18446744073709551616 := by
    have h1 := pp_bd hI l0 l1
    have h2 := hI.r 3 (by omega)
    rw [← hkp]; exact andNot_bd _ _ h1.1 h1.2 h2.1 h2.2
  have hgb : 0 ≤ gp ∧ gp < 18446744073709551616 := by
    have h1 := pp_bd hI l0 l1
    have h2 := hI.r 3 (by omega)
    have := and_bd (pp c lines) (c 3) h1.1 h1.2 h2.1 h2.2
    rw [← hgp]; omega
  clear hkp hgp hkm
  generalize pp c lines = ppv at *
  go_upto_if 34 with fail
  go_cut [9, 10, 34] (fun s9 s10 _ wx => s9 = .int .u64 (if km = 3 ∧ bits .and .u64 (c 0) 8 = 0 then 0 else kp) ∧ s10 = .int .u64 (if km = 3 then 0 else gp) ∧ wx = w2)
  case first =>
    by_cases h3 : km = 3
    · subst h3
      by_cases h8 : bits .and .u64 (c 0) 8 = 0
      · go_wp2
        go_meet
        exact ⟨by simp [h8], rfl, rfl⟩
      · have z8 : (bits .and .u64 (c 0) 8 == 0) = false := beq_eq_false_iff_ne.2 h8
        go_wp2
        go_meet
        exact ⟨by simp [h8], rfl, rfl⟩
    · have z3 : (km == 3) = false := beq_eq_false_iff_ne.2 h3
      go_wp2
      go_meet
      exact ⟨by simp [h3], by simp [h3], rfl⟩
  case rest =>
    obtain ⟨rfl, rfl, hw⟩ := hcut
    rw [hw]
    clear hw
    rw [← unhide Hpk]
    obtain ⟨g10, hg10⟩ : ∃ x : Int, (if km = 3 then 0 else gp) = x := ⟨_, rfl⟩
    rw [hg10]
    have Hg10 := hide hg10
    clear hg10
    go_upto_region 8 with fail
    go_cut [46] (fun s46 wx => s46 = .bool (decide (km = 1 ∧ bits .and .u64 (c 0) 2 = 0)) ∧ wx = w2)
    case first =>
      by_cases h1 : km = 1
      · subst h1
        by_cases h2 : bits .and .u64 (c 0) 2 = 0
        · go_wp2
          go_meet
          exact ⟨by simp [h2], rfl⟩
        · have z2 : (bits .and .u64 (c 0) 2 == 0) = false := beq_eq_false_iff_ne.2 h2
          go_wp2
          go_meet
          exact ⟨by simp [h2], rfl⟩
      · have z1 : (km == 1) = false := beq_eq_false_iff_ne.2 h1
        go_wp2
        go_meet
        exact ⟨by simp [h1], rfl⟩
    case rest =>
      obtain ⟨rfl, hw⟩ := hcut
      rw [hw]
      clear hw
      obtain ⟨dd, hdd⟩ : ∃ dd, decide (km = 1 ∧ bits .and .u64 (c 0) 2 = 0) = dd := ⟨_, rfl⟩
      rw [hdd]
      have Hdd := hide hdd
      clear hdd
      go_upto_if 46 with fail
      go_cut [10] (fun s10 wx => s10 = .int .u64 (pg c mode lines) ∧ wx = w2)
      case first =>
        cases dd with
        | true =>
          have hc := of_decide_eq_true (unhide Hdd)
          have Hc := hide hc
          clear hc
          go_wp2
          go_meet
          exact ⟨by rw [unhide Hpg, if_pos (.inr (unhide Hc))], rfl⟩
        | false =>
          have hc := of_decide_eq_false (unhide Hdd)
          have Hc := hide hc
          clear hc
          go_wp2
          go_meet
          refine ⟨?_, rfl⟩
          rw [unhide Hpg, ← unhide Hg10]
          by_cases h3 : km = 3
          · rw [if_pos h3, if_pos (.inl h3)]
          · rw [if_neg h3, if_neg (fun h => h.elim h3 (unhide Hc))]
      case rest =>
        obtain ⟨rfl, hw⟩ := hcut
        rw [hw]
        clear hw
        have hb1 : 0 ≤ pk c mode lines ∧ pk c mode lines < 18446744073709551616 := by rw [unhide Hpk]; split <;> omega
        have hb2 : 0 ≤ pg c mode lines ∧ pg c mode lines < 18446744073709551616 := by rw [unhide Hpg]; split <;> omega
        have JC := JB.tail
        clear JB d0 hlt Hpk Hpg hkb hgb
        obtain ⟨kx, hkx⟩ : ∃ x, pk c mode lines = x := ⟨_, rfl⟩
        obtain ⟨gx, hgx⟩ : ∃ x, pg c mode lines = x := ⟨_, rfl⟩
        rw [hkx] at hb1 ⊢
        rw [hgx] at hb2 ⊢
        have Hkx := hide hkx
        have Hgx := hide hgx
        clear hkx hgx
        go_wp2
        go_loopw [50] (fun i wr => ∃ k : Nat, i = .int .i64 k ∧ k ≤ 2 ∧ (0 < k → firstIn kx = none) ∧ (1 < k → firstIn gx = none) ∧ Heap w0 wr L) (fun i _ => 2 - (intOf i).toNat)
        case atStart => exact ⟨0, rfl, by omega, by omega, by omega, JC⟩
        case round =>
          obtain ⟨k, rfl, hk, f1, f2, hJ⟩ := hrel
          clear JC
          have hk3 : k = 0 ∨ k = 1 ∨ k = 2 := by omega
          rcases hk3 with rfl | rfl | rfl
          · have hix : ∀ w_, (Instr.index 45 (.agg #[.int .u64 kx, .int .u64 gx]) (.int .i64 0)).run Try.prog w_ = .ok (.int .u64 kx) w_ := fun w_ => by kernel_rfl
            go_wp2_with fail
            refine (rank_any _).mono ?_
            rintro r w4 ⟨rfl, hg⟩
            have hJ := hJ.grown hg
            clear hg
            go_wp2
            go_loopw [54] (fun i wr => ∃ j : Nat, i = .int .i64 j ∧ j ≤ 6 ∧ (∀ m, m < j → ¬ (kx / 2 ^ rkAt m % 2 = 1)) ∧ Heap w0 wr L) (fun i _ => 6 - (intOf i).toNat)
            case atStart => exact ⟨0, rfl, by omega, by omega, hJ⟩
            case round =>
              obtain ⟨j, rfl, hj, hno, hK⟩ := hrel
              clear hJ
              have Hno := hide hno
              clear hno
              have hj6 : j = 0 ∨ j = 1 ∨ j = 2 ∨ j = 3 ∨ j = 4 ∨ j = 5 ∨ j = 6 := by omega
              rcases hj6 with rfl | rfl | rfl | rfl | rfl | rfl | rfl
              · have hbd : 0 ≤ kx / 2048 ∧ kx / 2048 < 18446744073709551616 := by omega
                have e1 := u64_mask1 (kx / 2048) hbd.1 hbd.2
                by_cases hb : kx / 2048 % 2 = 1
                · have hf : firstIn kx = some 11 := first_at kx 0 (by omega) (unhide Hno) hb
                  have hp : pend kx gx = some 11 := by (unfold pend; rw [hf]; rfl)
                  have ev : bits .or .u64 9223372036854775808 11 = 9223372036854775808 + 11 := by decide
                  have Hp := hide hp
                  rw [hb] at e1
                  clear hf hp hb
                  have hiy : ∀ w_, (Instr.index 46 (.agg #[.int .u64 11, .int .u64 3, .int .u64 7, .int .u64 9, .int .u64 1, .int .u64 5]) (.int .i64 0)).run Try.prog w_ = .ok (.int .u64 11) w_ := fun w_ => by kernel_rfl
                  go_wp2
                  go_ret2
                  rw [unhide Hkx, unhide Hgx, unhide Hp]
                  exact ⟨rfl, hK⟩
                · have hb0 : kx / 2048 % 2 = 0 := by omega
                  rw [hb0] at e1
                  have Hb := hide hb
                  clear hb hb0
                  have hiy : ∀ w_, (Instr.index 46 (.agg #[.int .u64 11, .int .u64 3, .int .u64 7, .int .u64 9, .int .u64 1, .int .u64 5]) (.int .i64 0)).run Try.prog w_ = .ok (.int .u64 11) w_ := fun w_ => by kernel_rfl
                  go_wp2
                  exact ⟨⟨1, by go_num, by omega, fun m hm => by
                    by_cases e : m = 0
                    · subst e; exact unhide Hb
                    · exact unhide Hno m (by omega), hK⟩, by simp [intOf]⟩
              · have hbd : 0 ≤ kx / 8 ∧ kx / 8 < 18446744073709551616 := by omega
                have e1 := u64_mask1 (kx / 8) hbd.1 hbd.2
                by_cases hb : kx / 8 % 2 = 1
                · have hf : firstIn kx = some 3 := first_at kx 1 (by omega) (unhide Hno) hb
                  have hp : pend kx gx = some 3 := by (unfold pend; rw [hf]; rfl)
                  have ev : bits .or .u64 9223372036854775808 3 = 9223372036854775808 + 3 := by decide
                  have Hp := hide hp
                  rw [hb] at e1
                  clear hf hp hb
                  have hiy : ∀ w_, (Instr.index 46 (.agg #[.int .u64 11, .int .u64 3, .int .u64 7, .int .u64 9, .int .u64 1, .int .u64 5]) (.int .i64 1)).run Try.prog w_ = .ok (.int .u64 3) w_ := fun w_ => by kernel_rfl
                  go_wp2
                  go_ret2
                  rw [unhide Hkx, unhide Hgx, unhide Hp]
                  exact ⟨rfl, hK⟩
                · have hb0 : kx / 8 % 2 = 0 := by omega
                  rw [hb0] at e1
                  have Hb := hide hb
                  clear hb hb0
                  have hiy : ∀ w_, (Instr.index 46 (.agg #[.int .u64 11, .int .u64 3, .int .u64 7, .int .u64 9, .int .u64 1, .int .u64 5]) (.int .i64 1)).run Try.prog w_ = .ok (.int .u64 3) w_ := fun w_ => by kernel_rfl
                  go_wp2
                  exact ⟨⟨2, by go_num, by omega, fun m hm => by
                    by_cases e : m = 1
                    · subst e; exact unhide Hb
                    · exact unhide Hno m (by omega), hK⟩, by simp [intOf]⟩
              · have hbd : 0 ≤ kx / 128 ∧ kx / 128 < 18446744073709551616 := by omega
                have e1 := u64_mask1 (kx / 128) hbd.1 hbd.2
                by_cases hb : kx / 128 % 2 = 1
                · have hf : firstIn kx = some 7 := first_at kx 2 (by omega) (unhide Hno) hb
                  have hp : pend kx gx = some 7 := by (unfold pend; rw [hf]; rfl)
                  have ev : bits .or .u64 9223372036854775808 7 = 9223372036854775808 + 7 := by decide
                  have Hp := hide hp
                  rw [hb] at e1
                  clear hf hp hb
                  have hiy : ∀ w_, (Instr.index 46 (.agg #[.int .u64 11, .int .u64 3, .int .u64 7, .int .u64 9, .int .u64 1, .int .u64 5]) (.int .i64 2)).run Try.prog w_ = .ok (.int .u64 7) w_ := fun w_ => by kernel_rfl
                  go_wp2
                  go_ret2
                  rw [unhide Hkx, unhide Hgx, unhide Hp]
                  exact ⟨rfl, hK⟩
                · have hb0 : kx / 128 % 2 = 0 := by omega
                  rw [hb0] at e1
                  have Hb := hide hb
                  clear hb hb0
                  have hiy : ∀ w_, (Instr.index 46 (.agg #[.int .u64 11, .int .u64 3, .int .u64 7, .int .u64 9, .int .u64 1, .int .u64 5]) (.int .i64 2)).run Try.prog w_ = .ok (.int .u64 7) w_ := fun w_ => by kernel_rfl
                  go_wp2
                  exact ⟨⟨3, by go_num, by omega, fun m hm => by
                    by_cases e : m = 2
                    · subst e; exact unhide Hb
                    · exact unhide Hno m (by omega), hK⟩, by simp [intOf]⟩
              · have hbd : 0 ≤ kx / 512 ∧ kx / 512 < 18446744073709551616 := by omega
                have e1 := u64_mask1 (kx / 512) hbd.1 hbd.2
                by_cases hb : kx / 512 % 2 = 1
                · have hf : firstIn kx = some 9 := first_at kx 3 (by omega) (unhide Hno) hb
                  have hp : pend kx gx = some 9 := by (unfold pend; rw [hf]; rfl)
                  have ev : bits .or .u64 9223372036854775808 9 = 9223372036854775808 + 9 := by decide
                  have Hp := hide hp
                  rw [hb] at e1
                  clear hf hp hb
                  have hiy : ∀ w_, (Instr.index 46 (.agg #[.int .u64 11, .int .u64 3, .int .u64 7, .int .u64 9, .int .u64 1, .int .u64 5]) (.int .i64 3)).run Try.prog w_ = .ok (.int .u64 9) w_ := fun w_ => by kernel_rfl
                  go_wp2
                  go_ret2
                  rw [unhide Hkx, unhide Hgx, unhide Hp]
                  exact ⟨rfl, hK⟩
                · have hb0 : kx / 512 % 2 = 0 := by omega
                  rw [hb0] at e1
                  have Hb := hide hb
                  clear hb hb0
                  have hiy : ∀ w_, (Instr.index 46 (.agg #[.int .u64 11, .int .u64 3, .int .u64 7, .int .u64 9, .int .u64 1, .int .u64 5]) (.int .i64 3)).run Try.prog w_ = .ok (.int .u64 9) w_ := fun w_ => by kernel_rfl
                  go_wp2
                  exact ⟨⟨4, by go_num, by omega, fun m hm => by
                    by_cases e : m = 3
                    · subst e; exact unhide Hb
                    · exact unhide Hno m (by omega), hK⟩, by simp [intOf]⟩
              · have hbd : 0 ≤ kx / 2 ∧ kx / 2 < 18446744073709551616 := by omega
                have e1 := u64_mask1 (kx / 2) hbd.1 hbd.2
                by_cases hb : kx / 2 % 2 = 1
                · have hf : firstIn kx = some 1 := first_at kx 4 (by omega) (unhide Hno) hb
                  have hp : pend kx gx = some 1 := by (unfold pend; rw [hf]; rfl)
                  have ev : bits .or .u64 9223372036854775808 1 = 9223372036854775808 + 1 := by decide
                  have Hp := hide hp
                  rw [hb] at e1
                  clear hf hp hb
                  have hiy : ∀ w_, (Instr.index 46 (.agg #[.int .u64 11, .int .u64 3, .int .u64 7, .int .u64 9, .int .u64 1, .int .u64 5]) (.int .i64 4)).run Try.prog w_ = .ok (.int .u64 1) w_ := fun w_ => by kernel_rfl
                  go_wp2
                  go_ret2
                  rw [unhide Hkx, unhide Hgx, unhide Hp]
                  exact ⟨rfl, hK⟩
                · have hb0 : kx / 2 % 2 = 0 := by omega
                  rw [hb0] at e1
                  have Hb := hide hb
                  clear hb hb0
                  have hiy : ∀ w_, (Instr.index 46 (.agg #[.int .u64 11, .int .u64 3, .int .u64 7, .int .u64 9, .int .u64 1, .int .u64 5]) (.int .i64 4)).run Try.prog w_ = .ok (.int .u64 1) w_ := fun w_ => by kernel_rfl
                  go_wp2
                  exact ⟨⟨5, by go_num, by omega, fun m hm => by
                    by_cases e : m = 4
                    · subst e; exact unhide Hb
                    · exact unhide Hno m (by omega), hK⟩, by simp [intOf]⟩
              · have hbd : 0 ≤ kx / 32 ∧ kx / 32 < 18446744073709551616 := by omega
                have e1 := u64_mask1 (kx / 32) hbd.1 hbd.2
                by_cases hb : kx / 32 % 2 = 1
                · have hf : firstIn kx = some 5 := first_at kx 5 (by omega) (unhide Hno) hb
                  have hp : pend kx gx = some 5 := by (unfold pend; rw [hf]; rfl)
                  have ev : bits .or .u64 9223372036854775808 5 = 9223372036854775808 + 5 := by decide
                  have Hp := hide hp
                  rw [hb] at e1
                  clear hf hp hb
                  have hiy : ∀ w_, (Instr.index 46 (.agg #[.int .u64 11, .int .u64 3, .int .u64 7, .int .u64 9, .int .u64 1, .int .u64 5]) (.int .i64 5)).run Try.prog w_ = .ok (.int .u64 5) w_ := fun w_ => by kernel_rfl
                  go_wp2
                  go_ret2
                  rw [unhide Hkx, unhide Hgx, unhide Hp]
                  exact ⟨rfl, hK⟩
                · have hb0 : kx / 32 % 2 = 0 := by omega
                  rw [hb0] at e1
                  have Hb := hide hb
                  clear hb hb0
                  have hiy : ∀ w_, (Instr.index 46 (.agg #[.int .u64 11, .int .u64 3, .int .u64 7, .int .u64 9, .int .u64 1, .int .u64 5]) (.int .i64 5)).run Try.prog w_ = .ok (.int .u64 5) w_ := fun w_ => by kernel_rfl
                  go_wp2
                  exact ⟨⟨6, by go_num, by omega, fun m hm => by
                    by_cases e : m = 5
                    · subst e; exact unhide Hb
                    · exact unhide Hno m (by omega), hK⟩, by simp [intOf]⟩
              · have hf : firstIn kx = none := first_none kx (unhide Hno)
                have Hf := hide hf
                clear hf
                go_wp2
                exact ⟨⟨1, by go_num, by omega, fun _ => unhide Hf, fun h => by omega, hK⟩, by simp [intOf]⟩
          · have Hf1 := hide (f1 (by omega))
            clear f1 f2
            have hix : ∀ w_, (Instr.index 45 (.agg #[.int .u64 kx, .int .u64 gx]) (.int .i64 1)).run Try.prog w_ = .ok (.int .u64 gx) w_ := fun w_ => by kernel_rfl
            go_wp2_with fail
            refine (rank_any _).mono ?_
            rintro r w4 ⟨rfl, hg⟩
            have hJ := hJ.grown hg
            clear hg
            go_wp2
            go_loopw [54] (fun i wr => ∃ j : Nat, i = .int .i64 j ∧ j ≤ 6 ∧ (∀ m, m < j → ¬ (gx / 2 ^ rkAt m % 2 = 1)) ∧ Heap w0 wr L) (fun i _ => 6 - (intOf i).toNat)
            case atStart => exact ⟨0, rfl, by omega, by omega, hJ⟩
            case round =>
              obtain ⟨j, rfl, hj, hno, hK⟩ := hrel
              clear hJ
              have Hno := hide hno
              clear hno
              have hj6 : j = 0 ∨ j = 1 ∨ j = 2 ∨ j = 3 ∨ j = 4 ∨ j = 5 ∨ j = 6 := by omega
              rcases hj6 with rfl | rfl | rfl | rfl | rfl | rfl | rfl
              · have hbd : 0 ≤ gx / 2048 ∧ gx / 2048 < 18446744073709551616 := by omega
                have e1 := u64_mask1 (gx / 2048) hbd.1 hbd.2
                by_cases hb : gx / 2048 % 2 = 1
                · have hf : firstIn gx = some 11 := first_at gx 0 (by omega) (unhide Hno) hb
                  have hp : pend kx gx = some 11 := by (unfold pend; rw [unhide Hf1, hf]; rfl)
                  have ev : bits .or .u64 9223372036854775808 11 = 9223372036854775808 + 11 := by decide
                  have Hp := hide hp
                  rw [hb] at e1
                  clear hf hp hb
                  have hiy : ∀ w_, (Instr.index 46 (.agg #[.int .u64 11, .int .u64 3, .int .u64 7, .int .u64 9, .int .u64 1, .int .u64 5]) (.int .i64 0)).run Try.prog w_ = .ok (.int .u64 11) w_ := fun w_ => by kernel_rfl
                  go_wp2
                  go_ret2
                  rw [unhide Hkx, unhide Hgx, unhide Hp]
                  exact ⟨rfl, hK⟩
                · have hb0 : gx / 2048 % 2 = 0 := by omega
                  rw [hb0] at e1
                  have Hb := hide hb
                  clear hb hb0
                  have hiy : ∀ w_, (Instr.index 46 (.agg #[.int .u64 11, .int .u64 3, .int .u64 7, .int .u64 9, .int .u64 1, .int .u64 5]) (.int .i64 0)).run Try.prog w_ = .ok (.int .u64 11) w_ := fun w_ => by kernel_rfl
                  go_wp2
                  exact ⟨⟨1, by go_num, by omega, fun m hm => by
                    by_cases e : m = 0
                    · subst e; exact unhide Hb
                    · exact unhide Hno m (by omega), hK⟩, by simp [intOf]⟩
              · have hbd : 0 ≤ gx / 8 ∧ gx / 8 < 18446744073709551616 := by omega
                have e1 := u64_mask1 (gx / 8) hbd.1 hbd.2
                by_cases hb : gx / 8 % 2 = 1
                · have hf : firstIn gx = some 3 := first_at gx 1 (by omega) (unhide Hno) hb
                  have hp : pend kx gx = some 3 := by (unfold pend; rw [unhide Hf1, hf]; rfl)
                  have ev : bits .or .u64 9223372036854775808 3 = 9223372036854775808 + 3 := by decide
                  have Hp := hide hp
                  rw [hb] at e1
                  clear hf hp hb
                  have hiy : ∀ w_, (Instr.index 46 (.agg #[.int .u64 11, .int .u64 3, .int .u64 7, .int .u64 9, .int .u64 1, .int .u64 5]) (.int .i64 1)).run Try.prog w_ = .ok (.int .u64 3) w_ := fun w_ => by kernel_rfl
                  go_wp2
                  go_ret2
                  rw [unhide Hkx, unhide Hgx, unhide Hp]
                  exact ⟨rfl, hK⟩
                · have hb0 : gx / 8 % 2 = 0 := by omega
                  rw [hb0] at e1
                  have Hb := hide hb
                  clear hb hb0
                  have hiy : ∀ w_, (Instr.index 46 (.agg #[.int .u64 11, .int .u64 3, .int .u64 7, .int .u64 9, .int .u64 1, .int .u64 5]) (.int .i64 1)).run Try.prog w_ = .ok (.int .u64 3) w_ := fun w_ => by kernel_rfl
                  go_wp2
                  exact ⟨⟨2, by go_num, by omega, fun m hm => by
                    by_cases e : m = 1
                    · subst e; exact unhide Hb
                    · exact unhide Hno m (by omega), hK⟩, by simp [intOf]⟩
              · have hbd : 0 ≤ gx / 128 ∧ gx / 128 < 18446744073709551616 := by omega
                have e1 := u64_mask1 (gx / 128) hbd.1 hbd.2
                by_cases hb : gx / 128 % 2 = 1
                · have hf : firstIn gx = some 7 := first_at gx 2 (by omega) (unhide Hno) hb
                  have hp : pend kx gx = some 7 := by (unfold pend; rw [unhide Hf1, hf]; rfl)
                  have ev : bits .or .u64 9223372036854775808 7 = 9223372036854775808 + 7 := by decide
                  have Hp := hide hp
                  rw [hb] at e1
                  clear hf hp hb
                  have hiy : ∀ w_, (Instr.index 46 (.agg #[.int .u64 11, .int .u64 3, .int .u64 7, .int .u64 9, .int .u64 1, .int .u64 5]) (.int .i64 2)).run Try.prog w_ = .ok (.int .u64 7) w_ := fun w_ => by kernel_rfl
                  go_wp2
                  go_ret2
                  rw [unhide Hkx, unhide Hgx, unhide Hp]
                  exact ⟨rfl, hK⟩
                · have hb0 : gx / 128 % 2 = 0 := by omega
                  rw [hb0] at e1
                  have Hb := hide hb
                  clear hb hb0
                  have hiy : ∀ w_, (Instr.index 46 (.agg #[.int .u64 11, .int .u64 3, .int .u64 7, .int .u64 9, .int .u64 1, .int .u64 5]) (.int .i64 2)).run Try.prog w_ = .ok (.int .u64 7) w_ := fun w_ => by kernel_rfl
                  go_wp2
                  exact ⟨⟨3, by go_num, by omega, fun m hm => by
                    by_cases e : m = 2
                    · subst e; exact unhide Hb
                    · exact unhide Hno m (by omega), hK⟩, by simp [intOf]⟩
              · have hbd : 0 ≤ gx / 512 ∧ gx / 512 < 18446744073709551616 := by omega
                have e1 := u64_mask1 (gx / 512) hbd.1 hbd.2
                by_cases hb : gx / 512 % 2 = 1
                · have hf : firstIn gx = some 9 := first_at gx 3 (by omega) (unhide Hno) hb
                  have hp : pend kx gx = some 9 := by (unfold pend; rw [unhide Hf1, hf]; rfl)
                  have ev : bits .or .u64 9223372036854775808 9 = 9223372036854775808 + 9 := by decide
                  have Hp := hide hp
                  rw [hb] at e1
                  clear hf hp hb
                  have hiy : ∀ w_, (Instr.index 46 (.agg #[.int .u64 11, .int .u64 3, .int .u64 7, .int .u64 9, .int .u64 1, .int .u64 5]) (.int .i64 3)).run Try.prog w_ = .ok (.int .u64 9) w_ := fun w_ => by kernel_rfl
                  go_wp2
                  go_ret2
                  rw [unhide Hkx, unhide Hgx, unhide Hp]
                  exact ⟨rfl, hK⟩
                · have hb0 : gx / 512 % 2 = 0 := by omega
                  rw [hb0] at e1
                  have Hb := hide hb
                  clear hb hb0
                  have hiy : ∀ w_, (Instr.index 46 (.agg #[.int .u64 11, .int .u64 3, .int .u64 7, .int .u64 9, .int .u64 1, .int .u64 5]) (.int .i64 3)).run Try.prog w_ = .ok (.int .u64 9) w_ := fun w_ => by kernel_rfl
                  go_wp2
                  exact ⟨⟨4, by go_num, by omega, fun m hm => by
                    by_cases e : m = 3
                    · subst e; exact unhide Hb
                    · exact unhide Hno m (by omega), hK⟩, by simp [intOf]⟩
              · have hbd : 0 ≤ gx / 2 ∧ gx / 2 < 18446744073709551616 := by omega
                have e1 := u64_mask1 (gx / 2) hbd.1 hbd.2
                by_cases hb : gx / 2 % 2 = 1
                · have hf : firstIn gx = some 1 := first_at gx 4 (by omega) (unhide Hno) hb
                  have hp : pend kx gx = some 1 := by (unfold pend; rw [unhide Hf1, hf]; rfl)
                  have ev : bits .or .u64 9223372036854775808 1 = 9223372036854775808 + 1 := by decide
                  have Hp := hide hp
                  rw [hb] at e1
                  clear hf hp hb
                  have hiy : ∀ w_, (Instr.index 46 (.agg #[.int .u64 11, .int .u64 3, .int .u64 7, .int .u64 9, .int .u64 1, .int .u64 5]) (.int .i64 4)).run Try.prog w_ = .ok (.int .u64 1) w_ := fun w_ => by kernel_rfl
                  go_wp2
                  go_ret2
                  rw [unhide Hkx, unhide Hgx, unhide Hp]
                  exact ⟨rfl, hK⟩
                · have hb0 : gx / 2 % 2 = 0 := by omega
                  rw [hb0] at e1
                  have Hb := hide hb
                  clear hb hb0
                  have hiy : ∀ w_, (Instr.index 46 (.agg #[.int .u64 11, .int .u64 3, .int .u64 7, .int .u64 9, .int .u64 1, .int .u64 5]) (.int .i64 4)).run Try.prog w_ = .ok (.int .u64 1) w_ := fun w_ => by kernel_rfl
                  go_wp2
                  exact ⟨⟨5, by go_num, by omega, fun m hm => by
                    by_cases e : m = 4
                    · subst e; exact unhide Hb
                    · exact unhide Hno m (by omega), hK⟩, by simp [intOf]⟩
              · have hbd : 0 ≤ gx / 32 ∧ gx / 32 < 18446744073709551616 := by omega
                have e1 := u64_mask1 (gx / 32) hbd.1 hbd.2
                by_cases hb : gx / 32 % 2 = 1
                · have hf : firstIn gx = some 5 := first_at gx 5 (by omega) (unhide Hno) hb
                  have hp : pend kx gx = some 5 := by (unfold pend; rw [unhide Hf1, hf]; rfl)
                  have ev : bits .or .u64 9223372036854775808 5 = 9223372036854775808 + 5 := by decide
                  have Hp := hide hp
                  rw [hb] at e1
                  clear hf hp hb
                  have hiy : ∀ w_, (Instr.index 46 (.agg #[.int .u64 11, .int .u64 3, .int .u64 7, .int .u64 9, .int .u64 1, .int .u64 5]) (.int .i64 5)).run Try.prog w_ = .ok (.int .u64 5) w_ := fun w_ => by kernel_rfl
                  go_wp2
                  go_ret2
                  rw [unhide Hkx, unhide Hgx, unhide Hp]
                  exact ⟨rfl, hK⟩
                · have hb0 : gx / 32 % 2 = 0 := by omega
                  rw [hb0] at e1
                  have Hb := hide hb
                  clear hb hb0
                  have hiy : ∀ w_, (Instr.index 46 (.agg #[.int .u64 11, .int .u64 3, .int .u64 7, .int .u64 9, .int .u64 1, .int .u64 5]) (.int .i64 5)).run Try.prog w_ = .ok (.int .u64 5) w_ := fun w_ => by kernel_rfl
                  go_wp2
                  exact ⟨⟨6, by go_num, by omega, fun m hm => by
                    by_cases e : m = 5
                    · subst e; exact unhide Hb
                    · exact unhide Hno m (by omega), hK⟩, by simp [intOf]⟩
              · have hf : firstIn gx = none := first_none gx (unhide Hno)
                have Hf := hide hf
                clear hf
                go_wp2
                exact ⟨⟨2, by go_num, by omega, fun _ => unhide Hf1, fun _ => unhide Hf, hK⟩, by simp [intOf]⟩
          · have e1 : pend kx gx = none := by unfold pend; rw [f1 (by omega), f2 (by omega)]; rfl
            have E1 := hide e1
            clear e1 f1 f2
            go_wp2
            go_ret2
            rw [unhide Hkx, unhide Hgx, unhide E1]
            exact ⟨rfl, hJ⟩
end
end Go.Proofs.Ytijhlbkhcpkkdaa
