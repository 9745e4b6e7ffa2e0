/- Layer 4: Expand, Short, Shrink. -/
import Derived.Test.YtblbgalpkodibaaDoorS4
namespace Go.Proofs.YtblbgalpkodibaaDoor
open Go.RowKit

def exN (h : Nat) : Nat := bif and16 h 3 == 0 then firstN h else bif and16 h 3 == 1 then secondN h else bif and16 h 3 == 2 then thirdN h else 0
theorem and16_lt (h : Nat) : and16 h 3 < 4 := by
  unfold and16
  have : h &&& 3 ≤ 3 := Nat.and_le_right
  omega
set_option maxRecDepth 100000 in
set_option maxHeartbeats 1000000 in
theorem expand_any {w0 : World} (hT : Tab w0) (h : Nat) (hh : h < 65536) (w : World) (hg : GN w0 w) : Calls Tryd.prog 32 #[.int .u16 h] w fun e w' => e = .returned (.tuple #[.int .u32 (exN h : Nat), .bool (exN h != 0)]) ∧ GN w0 w' := by
  have em : bits .and .u16 (h : Int) 3 = ((and16 h 3 : Nat) : Int) := (and16_cast h 3).symm
  have hm := and16_lt h
  obtain ⟨ans, hans⟩ : ∃ a, exN h = a := ⟨_, rfl⟩
  rw [hans]
  have hx := hans
  unfold exN at hx
  clear hans
  generalize and16 h 3 = m at *
  have Hx := hide hx
  clear hx
  go_enter Tryd.func32, Tryd.ntmps32
  have h4 : m = 0 ∨ m = 1 ∨ m = 2 ∨ m = 3 := by omega
  clear hm
  rcases h4 with rfl | rfl | rfl | rfl
  · have hx := unhide Hx
    rw [condT (b := 0 == 0) rfl] at hx
    rw [← hx]
    clear hx
    go_wp2_with (first | (go_at_call 46; refine (first_any hT _ (by assumption) _ hg).mono ?_; rintro _ _ ⟨rfl, hg⟩))
    go_ret2
    exact ⟨congrArg (fun b => Ending.returned (Value.tuple #[.int .u32 (firstN h : Nat), .bool b])) (natBNe _ 0), hg⟩
  · have hx := unhide Hx
    rw [condF (b := 1 == 0) rfl, condT (b := 1 == 1) rfl] at hx
    rw [← hx]
    clear hx
    go_wp2_with (first | (go_at_call 47; refine (second_any hT _ (by assumption) _ hg).mono ?_; rintro _ _ ⟨rfl, hg⟩))
    go_ret2
    exact ⟨congrArg (fun b => Ending.returned (Value.tuple #[.int .u32 (secondN h : Nat), .bool b])) (natBNe _ 0), hg⟩
  · have hx := unhide Hx
    rw [condF (b := 2 == 0) rfl, condF (b := 2 == 1) rfl, condT (b := 2 == 2) rfl] at hx
    rw [← hx]
    clear hx
    go_wp2_with (first | (go_at_call 48; refine (third_any hT _ (by assumption) _ hg).mono ?_; rintro _ _ ⟨rfl, hg⟩))
    go_ret2
    exact ⟨congrArg (fun b => Ending.returned (Value.tuple #[.int .u32 (thirdN h : Nat), .bool b])) (natBNe _ 0), hg⟩
  · have hx := unhide Hx
    rw [condF (b := 3 == 0) rfl, condF (b := 3 == 1) rfl, condF (b := 3 == 2) rfl] at hx
    rw [← hx]
    clear hx
    go_wp2
    go_ret2
    exact ⟨rfl, hg⟩
theorem short_any (h : Nat) (w : World) : Calls Tryd.prog 31 #[.int .u16 h] w fun e w' => e = .returned (.bool (and16 h 3 != 3)) ∧ GN w w' := by
  have em : bits .and .u16 (h : Int) 3 = ((and16 h 3 : Nat) : Int) := (and16_cast h 3).symm
  have e2 := natBNe (and16 h 3) 3
  rw [← e2]
  clear e2
  go_enter Tryd.func31, Tryd.ntmps31
  go_wp2
  go_ret
  exact ⟨rfl, GN.refl w⟩
end Go.Proofs.YtblbgalpkodibaaDoor
