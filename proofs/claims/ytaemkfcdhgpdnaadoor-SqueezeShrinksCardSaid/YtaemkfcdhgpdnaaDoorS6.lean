/- Layer 4: Shrink. -/
import Derived.Test.YtaemkfcdhgpdnaaDoorS5
namespace Go.Proofs.YtaemkfcdhgpdnaaDoor
open Go.RowKit

def hit (x h : Nat) : Bool := exN h != 0 && exN h == x
/-- What Shrink answers. -/
def Shr (x : Nat) (e : Ending) : Prop :=
  (∃ h, h < 65536 ∧ and32 x 3 = 3 ∧ hit x h = true ∧ (∀ j, j < h → hit x j = false) ∧ e = .returned (.tuple #[.int .u16 (h : Nat), .bool true])) ∨
  ((and32 x 3 ≠ 3 ∨ ∀ j, j < 65536 → hit x j = false) ∧ e = .returned (.tuple #[.int .u16 0, .bool false]))
set_option maxRecDepth 100000 in
set_option maxHeartbeats 1000000 in
theorem shrink_any {w0 : World} (hT : Tab w0) (x : Nat) (w : World) (hg : GN w0 w) : Calls Tryd.prog 12 #[.int .u32 x] w fun e w' => Shr x e ∧ GN w0 w' := by
  have em : bits .and .u32 (x : Int) 3 = ((and32 x 3 : Nat) : Int) := (and32_cast x 3).symm
  have e2 := natBNe (and32 x 3) 3
  generalize hm : and32 x 3 = m at *
  go_enter Tryd.func12, Tryd.ntmps12
  cases h3 : m != 3 with
  | true =>
    rw [h3] at e2
    have e2 : ((m : Int) != 3) = true := e2
    have hne : m ≠ 3 := bne_iff_ne.1 h3
    go_wp2
    go_ret2
    exact ⟨.inr ⟨.inl (by rw [hm]; exact hne), rfl⟩, hg⟩
  | false =>
    rw [h3] at e2
    replace e2 : ((m : Int) != 3) = false := e2
    have he3 : m = 3 := by simpa using h3
    have Hm := hide (hm.trans he3)
    clear hm he3 h3
    obtain ⟨lim, hlim⟩ : ∃ l : Nat, l = 65536 := ⟨_, rfl⟩
    have Hlim := hide hlim
    clear hlim
    go_wp2
    clear em e2
    go_loopw [10] (fun v wr => ∃ j : Nat, v = .int .i64 j ∧ j ≤ lim ∧ (∀ i, i < j → hit x i = false) ∧ GN w0 wr) (fun v _ => lim - (intOf v).toNat)
    case atStart => exact ⟨0, rfl, Nat.zero_le _, fun i hi => absurd hi (Nat.not_lt_zero i), hg⟩
    case round =>
      clear hg
      obtain ⟨j, rfl, hj, hno, hg⟩ := hrel
      have Hno := hide hno
      clear hno
      have hlim := unhide Hlim
      by_cases hlt : j < lim
      · have hlt2 : (j : Int) < 65536 := by omega
        clear hlim
        have q1 := natBNe (exN j) 0
        have q2 := natBEq (exN j) x
        obtain ⟨E, hE⟩ : ∃ E, exN j = E := ⟨_, rfl⟩
        have hh : hit x j = (E != 0 && E == x) := by unfold hit; rw [hE]
        have Hh := hide hh
        have HE := hide hE
        rw [hE] at q1 q2
        clear hh hE
        cases hz1 : E != 0 with
        | false =>
          rw [hz1] at q1
          have Hz := hide hz1
          go_wp2_with (go_at_call 7; refine (expand_any hT _ (by omega) _ hg).mono ?_; rw [unhide HE]; rintro _ w5 ⟨rfl, hg⟩)
          refine ⟨⟨j + 1, by simp, by omega, fun i hi => ?_, hg⟩, by simp [intOf]; omega⟩
          by_cases hij : i < j
          · exact unhide Hno i hij
          · obtain rfl : i = j := by omega
            rw [unhide Hh, unhide Hz]
            rfl
        | true =>
          rw [hz1] at q1
          have Hz := hide hz1
          cases hz2 : E == x with
          | false =>
            rw [hz2] at q2
            have Hz2 := hide hz2
            go_wp2_with (go_at_call 7; refine (expand_any hT _ (by omega) _ hg).mono ?_; rw [unhide HE]; rintro _ w5 ⟨rfl, hg⟩)
            refine ⟨⟨j + 1, by simp, by omega, fun i hi => ?_, hg⟩, by simp [intOf]; omega⟩
            by_cases hij : i < j
            · exact unhide Hno i hij
            · obtain rfl : i = j := by omega
              rw [unhide Hh, unhide Hz, unhide Hz2]
              rfl
          | true =>
            rw [hz2] at q2
            have Hz2 := hide hz2
            go_wp2_with (go_at_call 7; refine (expand_any hT _ (by omega) _ hg).mono ?_; rw [unhide HE]; rintro _ w5 ⟨rfl, hg⟩)
            go_ret2
            exact ⟨.inl ⟨j, by omega, unhide Hm, by rw [unhide Hh, unhide Hz, unhide Hz2]; rfl, unhide Hno, rfl⟩, hg⟩
      · obtain rfl : j = 65536 := by omega
        clear hlim
        go_wp2
        go_ret2
        exact ⟨.inr ⟨.inr (unhide Hno), rfl⟩, hg⟩
end Go.Proofs.YtaemkfcdhgpdnaaDoor
