/- Layer 3, the document's side: letter, pieces. -/
import Derived.Test.YtopbdiekfhikmaaV1
namespace Go.Proofs.Ytopbdiekfhikmaa
open Go.RowKit

/-- A slice of a block of its own. -/
theorem Heap.newS {w0 w : World} {L : List HP} (h : Heap w0 w L) (xs : List Value) (T : TypeId) (n sz : Nat) (hl : xs.length = n * sz) : Heap w0 (w.alloc (.cells xs.toArray T)) (HP.slw (.slice (some ⟨w.heap.size, 0, none⟩) n n) sz n xs :: L) :=
  h.make (w' := w.alloc (.cells xs.toArray T)) (As := [HP.slw (.slice (some ⟨w.heap.size, 0, none⟩) n n) sz n xs]) (ds := [_]) ⟨rfl, rfl, rfl, by simp, fun k hk _ => Below.heap_alloc w _ k hk⟩
    (.cons ⟨sl_blk (heap_new' w _) hl, rfl⟩ .nil) (List.pairwise_singleton _ _) (fun c hc x hx => by
    simp only [List.mem_cons, List.mem_nil_iff, or_false] at hc
    subst hc
    rcases hx with hx | hx <;> (injection hx with hx; exact hx ▸ Nat.le_refl _))
/-- The pieces of an immediate: lowest place in the instruction, how many, lowest place in the number. -/
def pcs (c : Int) : List (Int × Int × Int) :=
  if c = 73 then [(20, 12, 0)] else if c = 83 then [(7, 5, 0), (25, 7, 5)] else if c = 66 then [(8, 4, 1), (25, 6, 5), (7, 1, 11), (31, 1, 12)] else if c = 85 then [(12, 20, 12)] else if c = 74 then [(21, 10, 1), (20, 1, 11), (12, 8, 12), (31, 1, 20)] else []
def pcsC (l : List (Int × Int × Int)) : List Value := l.flatMap fun p => [.int .i64 p.1, .int .i64 p.2.1, .int .i64 p.2.2]
section
variable {w0 w : World} {L : List HP}
set_option maxRecDepth 100000 in
theorem pieces_any (h : Heap w0 w L) (c : Int) : Calls Try.prog 55 #[.int .u8 c] w fun r w' => ∃ v, r = .returned v ∧ Heap w0 w' (HP.slw v 3 (pcs c).length (pcsC (pcs c)) :: L) := by
  have H := hide h
  clear h
  by_cases h1 : c = 73
  · subst h1
    have K := hide ((unhide H).newS [.int .i64 20, .int .i64 12, .int .i64 0] 67 1 3 rfl)
    go_enter Try.func55, Try.ntmps55
    go_wp2
    go_ret
    exact ⟨_, rfl, unhide K⟩
  by_cases h2 : c = 83
  · subst h2
    have K := hide ((unhide H).newS [.int .i64 7, .int .i64 5, .int .i64 0, .int .i64 25, .int .i64 7, .int .i64 5] 67 2 3 rfl)
    clear h1
    go_enter Try.func55, Try.ntmps55
    go_wp2
    go_ret
    exact ⟨_, rfl, unhide K⟩
  by_cases h3 : c = 66
  · subst h3
    have K := hide ((unhide H).newS [.int .i64 8, .int .i64 4, .int .i64 1, .int .i64 25, .int .i64 6, .int .i64 5, .int .i64 7, .int .i64 1, .int .i64 11, .int .i64 31, .int .i64 1, .int .i64 12] 67 4 3 rfl)
    clear h1 h2
    go_enter Try.func55, Try.ntmps55
    go_wp2
    go_ret
    exact ⟨_, rfl, unhide K⟩
  by_cases h4 : c = 85
  · subst h4
    have K := hide ((unhide H).newS [.int .i64 12, .int .i64 20, .int .i64 12] 67 1 3 rfl)
    clear h1 h2 h3
    go_enter Try.func55, Try.ntmps55
    go_wp2
    go_ret
    exact ⟨_, rfl, unhide K⟩
  by_cases h5 : c = 74
  · subst h5
    have K := hide ((unhide H).newS [.int .i64 21, .int .i64 10, .int .i64 1, .int .i64 20, .int .i64 1, .int .i64 11, .int .i64 12, .int .i64 8, .int .i64 12, .int .i64 31, .int .i64 1, .int .i64 20] 67 4 3 rfl)
    clear h1 h2 h3 h4
    go_enter Try.func55, Try.ntmps55
    go_wp2
    go_ret
    exact ⟨_, rfl, unhide K⟩
  have hp : pcs c = [] := by unfold pcs; rw [if_neg h1, if_neg h2, if_neg h3, if_neg h4, if_neg h5]
  rw [hp]
  have z1 : (c == 73) = false := beq_eq_false_iff_ne.2 h1
  have z2 : (c == 83) = false := beq_eq_false_iff_ne.2 h2
  have z3 : (c == 66) = false := beq_eq_false_iff_ne.2 h3
  have z4 : (c == 85) = false := beq_eq_false_iff_ne.2 h4
  have z5 : (c == 74) = false := beq_eq_false_iff_ne.2 h5
  clear hp h1 h2 h3 h4 h5
  go_enter Try.func55, Try.ntmps55
  go_wp2
  go_ret
  exact ⟨_, rfl, (unhide H).noneS⟩
end
set_option maxRecDepth 100000 in
theorem letter_any (F : ByteArray) (hF : F.size ≤ 1000) (w : World) : Calls Try.prog 56 #[.string F] w fun r w' => r = .returned (.int .u8 (letF F)) ∧ w' = w := by
  go_enter Try.func56, Try.ntmps56
  go_wp2
  go_loopw [4] (fun i wr => ∃ k : Nat, i = .int .i64 k ∧ k ≤ 5 ∧ (0 < k → hasF F 73 = false) ∧ (1 < k → hasF F 83 = false) ∧ (2 < k → hasF F 66 = false) ∧ (3 < k → hasF F 85 = false) ∧ (4 < k → hasF F 74 = false) ∧ wr = w) (fun i _ => 5 - (intOf i).toNat)
  case atStart => exact ⟨0, rfl, by omega, by omega, by omega, by omega, by omega, by omega, rfl⟩
  case round =>
    obtain ⟨k, rfl, hk, a1, a2, a3, a4, a5, rfl⟩ := hrel
    have HA := hide (And.intro a1 (And.intro a2 (And.intro a3 (And.intro a4 a5))))
    clear a1 a2 a3 a4 a5
    have hc : k = 0 ∨ k = 1 ∨ k = 2 ∨ k = 3 ∨ k = 4 ∨ k = 5 := by omega
    rcases hc with rfl | rfl | rfl | rfl | rfl | rfl
    · go_wp2_with fail
      refine (has_any F hF 73 _).mono ?_
      rintro r w2 ⟨rfl, rfl⟩
      cases hh : hasF F 73 with
      | true =>
        have HL := hide (show letF F = 73 by
          obtain ⟨a1, a2, a3, a4, a5⟩ := unhide HA
          unfold letF
          rw [hh]; rfl)
        clear HA
        go_wp2
        go_ret
        exact ⟨by rw [unhide HL]; rfl, rfl⟩
      | false =>
        have HH := hide hh
        clear hh
        go_wp2
        obtain ⟨a1, a2, a3, a4, a5⟩ := unhide HA
        have hh := unhide HH
        exact ⟨⟨1, by go_num, by omega, fun _ => hh, by omega, by omega, by omega, by omega, trivial⟩, by simp [intOf]⟩
    · go_wp2_with fail
      refine (has_any F hF 83 _).mono ?_
      rintro r w2 ⟨rfl, rfl⟩
      cases hh : hasF F 83 with
      | true =>
        have HL := hide (show letF F = 83 by
          obtain ⟨a1, a2, a3, a4, a5⟩ := unhide HA
          unfold letF
          simp only [hh, a1 (by omega), if_true, if_false, Bool.false_eq_true])
        clear HA
        go_wp2
        go_ret
        exact ⟨by rw [unhide HL]; rfl, rfl⟩
      | false =>
        have HH := hide hh
        clear hh
        go_wp2
        obtain ⟨a1, a2, a3, a4, a5⟩ := unhide HA
        have hh := unhide HH
        exact ⟨⟨2, by go_num, by omega, fun _ => a1 (by omega), fun _ => hh, by omega, by omega, by omega, trivial⟩, by simp [intOf]⟩
    · go_wp2_with fail
      refine (has_any F hF 66 _).mono ?_
      rintro r w2 ⟨rfl, rfl⟩
      cases hh : hasF F 66 with
      | true =>
        have HL := hide (show letF F = 66 by
          obtain ⟨a1, a2, a3, a4, a5⟩ := unhide HA
          unfold letF
          simp only [hh, a1 (by omega), a2 (by omega), if_true, if_false, Bool.false_eq_true])
        clear HA
        go_wp2
        go_ret
        exact ⟨by rw [unhide HL]; rfl, rfl⟩
      | false =>
        have HH := hide hh
        clear hh
        go_wp2
        obtain ⟨a1, a2, a3, a4, a5⟩ := unhide HA
        have hh := unhide HH
        exact ⟨⟨3, by go_num, by omega, fun _ => a1 (by omega), fun _ => a2 (by omega), fun _ => hh, by omega, by omega, trivial⟩, by simp [intOf]⟩
    · go_wp2_with fail
      refine (has_any F hF 85 _).mono ?_
      rintro r w2 ⟨rfl, rfl⟩
      cases hh : hasF F 85 with
      | true =>
        have HL := hide (show letF F = 85 by
          obtain ⟨a1, a2, a3, a4, a5⟩ := unhide HA
          unfold letF
          simp only [hh, a1 (by omega), a2 (by omega), a3 (by omega), if_true, if_false, Bool.false_eq_true])
        clear HA
        go_wp2
        go_ret
        exact ⟨by rw [unhide HL]; rfl, rfl⟩
      | false =>
        have HH := hide hh
        clear hh
        go_wp2
        obtain ⟨a1, a2, a3, a4, a5⟩ := unhide HA
        have hh := unhide HH
        exact ⟨⟨4, by go_num, by omega, fun _ => a1 (by omega), fun _ => a2 (by omega), fun _ => a3 (by omega), fun _ => hh, by omega, trivial⟩, by simp [intOf]⟩
    · go_wp2_with fail
      refine (has_any F hF 74 _).mono ?_
      rintro r w2 ⟨rfl, rfl⟩
      cases hh : hasF F 74 with
      | true =>
        have HL := hide (show letF F = 74 by
          obtain ⟨a1, a2, a3, a4, a5⟩ := unhide HA
          unfold letF
          simp only [hh, a1 (by omega), a2 (by omega), a3 (by omega), a4 (by omega), if_true, if_false, Bool.false_eq_true])
        clear HA
        go_wp2
        go_ret
        exact ⟨by rw [unhide HL]; rfl, rfl⟩
      | false =>
        have HH := hide hh
        clear hh
        go_wp2
        obtain ⟨a1, a2, a3, a4, a5⟩ := unhide HA
        have hh := unhide HH
        exact ⟨⟨5, by go_num, by omega, fun _ => a1 (by omega), fun _ => a2 (by omega), fun _ => a3 (by omega), fun _ => a4 (by omega), fun _ => hh, trivial⟩, by simp [intOf]⟩
    · have HL := hide (show letF F = 0 by
        obtain ⟨a1, a2, a3, a4, a5⟩ := unhide HA
        unfold letF
        simp only [a1 (by omega), a2 (by omega), a3 (by omega), a4 (by omega), a5 (by omega), if_false, Bool.false_eq_true])
      clear HA
      go_wp2
      go_ret
      exact ⟨by rw [unhide HL]; rfl, rfl⟩
end Go.Proofs.Ytopbdiekfhikmaa
