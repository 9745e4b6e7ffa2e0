/- Layer 4: as the document has it: the walks. -/
import Derived.Test.YtaemkfcdhgpdnaaDoorN4
import Derived.Test.YtaemkfcdhgpdnaaDoorS7
namespace Go.Proofs.YtaemkfcdhgpdnaaDoor
open Go.RowKit

theorem rexpand_ex {w0 : World} (hT : Tab w0) (h : Nat) (hh : h < 65536) (w : World) (hg : GN w0 w) : Calls Tryd.prog 8 #[.int .u16 h] w fun e w' => e = .returned (.tuple #[.int .u32 (exN h : Nat), .bool (exN h != 0)]) ∧ GN w0 w' := by
  rw [← rex_eq h hh]
  exact rexpand_any hT h hh w hg
/-- What the document's Shrink answers. -/
def RShr (x : Nat) (e : Ending) : Prop :=
  (∃ h, h < 65536 ∧ hit x h = true ∧ (∀ j, j < h → hit x j = false) ∧ e = .returned (.tuple #[.int .u16 (h : Nat), .bool true])) ∨
  ((∀ j, j < 65536 → hit x j = false) ∧ e = .returned (.tuple #[.int .u16 0, .bool false]))
set_option maxRecDepth 100000 in
set_option maxHeartbeats 1000000 in
theorem rshrink_any {w0 : World} (hT : Tab w0) (x : Nat) (w : World) (hg : GN w0 w) : Calls Tryd.prog 13 #[.int .u32 x] w fun e w' => RShr x e ∧ GN w0 w' := by
  go_enter Tryd.func13, Tryd.ntmps13
  obtain ⟨lim, hlim⟩ : ∃ l : Nat, l = 65536 := ⟨_, rfl⟩
  have Hlim := hide hlim
  clear hlim
  go_wp2
  go_loopw [4] (fun v wr => ∃ j : Nat, v = .int .i64 j ∧ j ≤ lim ∧ (∀ i, i < j → hit x i = false) ∧ GN w0 wr) (fun v _ => lim - (intOf v).toNat)
  case atStart => exact ⟨0, rfl, Nat.zero_le _, fun i hi => absurd hi (Nat.not_lt_zero i), hg⟩
  case round =>
    clear hg
    obtain ⟨j, rfl, hj, hno, hg⟩ := hrel
    have Hno := hide hno
    clear hno
    have hlim := unhide Hlim
    by_cases hlt : j < lim
    · have hlt2 : (j : Int) < 65536 := by omega
      have hlt3 : j < 65536 := by omega
      clear hlim
      have q1 := natBNe (exN j) 0
      have q2 := natBEq (exN j) x
      obtain ⟨E, hE⟩ : ∃ E, exN j = E := ⟨_, rfl⟩
      have hh : hit x j = (E != 0 && E == x) := by unfold hit; rw [hE]
      have Hh := hide hh
      have HE := hide hE
      rw [hE] at q1 q2
      clear hh hE
      cases hz1 : E != 0 with
      | false =>
        rw [hz1] at q1
        have Hz := hide hz1
        go_wp2_with (go_at_call 8; refine (rexpand_ex hT _ (by assumption) _ hg).mono ?_; rw [unhide HE]; rintro _ w5 ⟨rfl, hg⟩)
        refine ⟨⟨j + 1, by go_num, by omega, fun i hi => ?_, hg⟩, by simp [intOf]; omega⟩
        by_cases hij : i < j
        · exact unhide Hno i hij
        · obtain rfl : i = j := by omega
          rw [unhide Hh, unhide Hz]
          rfl
      | true =>
        rw [hz1] at q1
        have Hz := hide hz1
        cases hz2 : E == x with
        | false =>
          rw [hz2] at q2
          have Hz2 := hide hz2
          go_wp2_with (go_at_call 8; refine (rexpand_ex hT _ (by assumption) _ hg).mono ?_; rw [unhide HE]; rintro _ w5 ⟨rfl, hg⟩)
          refine ⟨⟨j + 1, by go_num, by omega, fun i hi => ?_, hg⟩, by simp [intOf]; omega⟩
          by_cases hij : i < j
          · exact unhide Hno i hij
          · obtain rfl : i = j := by omega
            rw [unhide Hh, unhide Hz, unhide Hz2]
            rfl
        | true =>
          rw [hz2] at q2
          have Hz2 := hide hz2
          go_wp2_with (go_at_call 8; refine (rexpand_ex hT _ (by assumption) _ hg).mono ?_; rw [unhide HE]; rintro _ w5 ⟨rfl, hg⟩)
          go_ret2
          exact ⟨.inl ⟨j, hlt3, by rw [unhide Hh, unhide Hz, unhide Hz2]; rfl, unhide Hno, rfl⟩, hg⟩
    · obtain rfl : j = 65536 := by omega
      clear hlim
      go_wp2
      go_ret2
      exact ⟨.inr ⟨unhide Hno, rfl⟩, hg⟩
theorem hit_low {x h : Nat} (hh : h < 65536) (h1 : hit x h = true) : and32 x 3 = 3 := by
  unfold hit at h1
  rw [Bool.and_eq_true] at h1
  have hx := eq_of_beq h1.2
  rw [← hx]
  exact (ex_low h hh).resolve_left (bne_iff_ne.1 h1.1)
theorem shr_same {x : Nat} {e f : Ending} (h1 : Shr x e) (h2 : RShr x f) : ∃ (n : Nat) (b : Bool), e = .returned (.tuple #[.int .u16 n, .bool b]) ∧ f = .returned (.tuple #[.int .u16 n, .bool b]) := by
  rcases h1 with ⟨n, a1, _, a3, a4, rfl⟩ | ⟨a1, rfl⟩
  · rcases h2 with ⟨m, b1, b3, b4, rfl⟩ | ⟨b1, rfl⟩
    · have : n = m := by
        rcases Nat.lt_trichotomy n m with q | q | q
        · rw [b4 n q] at a3; cases a3
        · exact q
        · rw [a4 m q] at b3; cases b3
      subst this
      exact ⟨n, true, rfl, rfl⟩
    · rw [b1 n a1] at a3; cases a3
  · rcases h2 with ⟨m, b1, b3, b4, rfl⟩ | ⟨b1, rfl⟩
    · rcases a1 with a1 | a1
      · exact absurd (hit_low b1 b3) a1
      · rw [a1 m b1] at b3; cases b3
    · exact ⟨0, false, rfl, rfl⟩
set_option maxRecDepth 100000 in
set_option maxHeartbeats 1000000 in
theorem expands_walk {w0 : World} (hT : Tab w0) (h : Nat) (hh : h < 65536) (w : World) (hg : GN w0 w) : Calls Tryd.prog 3 #[.int .u16 h] w fun e w' => e = .returned (.bool true) ∧ GN w0 w' := by
  have hs := short_eq h hh
  have Hs := hide hs
  clear hs
  go_enter Tryd.func3, Tryd.ntmps3
  go_wp2_with fail
  refine (expand_any hT h hh _ hg).mono ?_
  generalize hb : (exN h != 0) = b
  rintro _ w1 ⟨rfl, hg⟩
  go_wp2_with fail
  refine (rexpand_ex hT h hh _ hg).mono ?_
  rw [hb]
  rintro _ w2 ⟨rfl, hg⟩
  clear hb
  go_wp2_with fail
  refine (fixed_any hT _ hg).mono ?_
  rintro _ w3 ⟨rfl, hg⟩
  generalize exN h = y at *
  cases b <;> (
    go_wp2_with (first | (go_at_call 10; refine (short_any _ _).mono ?_; rw [unhide Hs]; rintro _ _ ⟨rfl, hq⟩; replace hg := GN.trans hg hq; clear hq) | (go_at_call 11; refine (rshort_any _ (by assumption) _).mono ?_; rintro _ _ ⟨rfl, hq⟩; replace hg := GN.trans hg hq; clear hq))
    go_ret
    exact ⟨by simp, hg⟩)
set_option maxRecDepth 100000 in
set_option maxHeartbeats 1000000 in
theorem shrinks_walk {w0 : World} (hT : Tab w0) (x : Nat) (w : World) (hg : GN w0 w) : Calls Tryd.prog 4 #[.int .u32 x] w fun e w' => e = .returned (.bool true) ∧ GN w0 w' := by
  go_enter Tryd.func4, Tryd.ntmps4
  go_wp2_with fail
  refine (shrink_any hT x _ hg).mono ?_
  rintro e1 w1 ⟨h1, hg⟩
  have h1' := h1
  rcases h1 with ⟨n, a1, a2, a3, a4, rfl⟩ | ⟨a1, rfl⟩
  · have Ha := hide h1'
    clear a1 a2 a3 a4 h1'
    go_wp2_with fail
    refine (rshrink_any hT x _ hg).mono ?_
    rintro e2 w2 ⟨h2, hg⟩
    obtain ⟨m, b, p1, rfl⟩ := shr_same (unhide Ha) h2
    simp at p1
    obtain ⟨q1, q2⟩ := p1
    obtain rfl : n = m := by omega
    subst q2
    clear h2 q1
    go_wp2_with (go_at_call 9; refine (fixed_any hT _ hg).mono ?_; rintro _ _ ⟨rfl, hg⟩)
    go_ret
    exact ⟨rfl, hg⟩
  · have Ha := hide h1'
    clear a1 h1'
    go_wp2_with fail
    refine (rshrink_any hT x _ hg).mono ?_
    rintro e2 w2 ⟨h2, hg⟩
    obtain ⟨m, b, p1, rfl⟩ := shr_same (unhide Ha) h2
    simp at p1
    obtain ⟨q1, q2⟩ := p1
    obtain rfl : m = 0 := by omega
    subst q2
    clear h2 q1
    go_wp2_with (go_at_call 9; refine (fixed_any hT _ hg).mono ?_; rintro _ _ ⟨rfl, hg⟩)
    go_ret
    exact ⟨rfl, hg⟩
end Go.Proofs.YtaemkfcdhgpdnaaDoor
