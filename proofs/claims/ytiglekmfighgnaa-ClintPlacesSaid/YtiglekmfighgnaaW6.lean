/- The other functions of the Clint and of its reference. -/
import Derived.Test.YtiglekmfighgnaaW5
namespace Go.Proofs.Ytiglekmfighgnaa
open Go.RowKit

def RL (s t a : Int) : Obj := .cells #[.int .u64 s, .int .u64 t, .int .u64 a] 36 (0, 0)
theorem grown_self (w : World) (row : Option Nat) : w.grownBy w row := ⟨rfl, rfl, rfl, Nat.le_refl _, fun _ _ _ => rfl⟩

theorem heap_new (w : World) (o : Obj) : (w.alloc o).heap[w.heap.size]? = some o := by show (w.heap.push o)[w.heap.size]? = _; simp
theorem ret_i {k : IntKind} {x y : Int} (h : x = y) : Ending.returned (.int k x) = Ending.returned (.int k y) := by rw [h]
theorem new_any (w : World) : Calls Try.prog 9 #[] w fun e w' => e = .returned (.pointer (some ⟨w.heap.size, 0, none⟩)) ∧ w'.heap[w.heap.size]? = some (CL 0 0 18446744073709551615) ∧ w.grownBy w' none ∧ w.heap.size < w'.heap.size := by
  go_enter Try.func9, Try.ntmps9
  go_wp2
  go_ret
  exact ⟨rfl, heap_new _ _, grown_alloc (grown_self w none) _, by simp⟩
theorem newR_any (w : World) : Calls Try.prog 10 #[] w fun e w' => e = .returned (.pointer (some ⟨w.heap.size, 0, none⟩)) ∧ w'.heap[w.heap.size]? = some (RL 0 0 18446744073709551615) ∧ w.grownBy w' none ∧ w.heap.size < w'.heap.size := by
  go_enter Try.func10, Try.ntmps10
  go_wp2
  go_ret
  exact ⟨rfl, heap_new _ _, grown_alloc (grown_self w none) _, by simp⟩

theorem tick_any (b : Nat) (s t a : Int) (w : World) (hb : w.heap[b]? = some (CL s t a)) :
    Calls Try.prog 17 #[.pointer (some ⟨b, 0, none⟩)] w fun e w' => e = .returned (.tuple #[]) ∧ w'.heap[b]? = some (CL s (IntKind.u64.wrap (t + 1)) a) ∧ w.grownBy w' (some b) := by
  have HB := hide hb
  obtain ⟨c0, c1, c2, f0, f1, f2⟩ := cells3 hb
  clear hb
  go_enter Try.func17, Try.ntmps17
  go_wp2
  go_end0
  exact ⟨rfl, heap_set (unhide HB) _ _, grown_set (grown_self w none) _ _⟩
theorem tickR_any (b : Nat) (s t a : Int) (w : World) (hb : w.heap[b]? = some (RL s t a)) :
    Calls Try.prog 18 #[.pointer (some ⟨b, 0, none⟩)] w fun e w' => e = .returned (.tuple #[]) ∧ w'.heap[b]? = some (RL s (IntKind.u64.wrap (t + 1)) a) ∧ w.grownBy w' (some b) := by
  have HB := hide hb
  obtain ⟨c0, c1, c2, f0, f1, f2⟩ := cells3 hb
  clear hb
  go_enter Try.func18, Try.ntmps18
  go_wp2
  go_end0
  exact ⟨rfl, heap_set (unhide HB) _ _, grown_set (grown_self w none) _ _⟩
theorem time_any (b : Nat) (s t a : Int) (w : World) (hb : w.heap[b]? = some (CL s t a)) :
    Calls Try.prog 21 #[.pointer (some ⟨b, 0, none⟩)] w fun e w' => e = .returned (.int .u64 t) ∧ w' = w := by
  obtain ⟨c0, c1, c2, f0, f1, f2⟩ := cells3 hb
  clear hb
  go_enter Try.func21, Try.ntmps21
  go_wp2
  go_ret
  exact ⟨rfl, rfl⟩
theorem copy_any (b : Nat) (s t a : Int) (w : World) (hb : w.heap[b]? = some (CL s t a)) :
    Calls Try.prog 15 #[.pointer (some ⟨b, 0, none⟩)] w fun e w' => e = .returned (.pointer (some ⟨w.heap.size, 0, none⟩)) ∧ w'.heap[w.heap.size]? = some (CL s t a) ∧ w.grownBy w' none ∧ w.heap.size < w'.heap.size := by
  obtain ⟨c0, c1, c2, f0, f1, f2⟩ := cells3 hb
  clear hb
  go_enter Try.func15, Try.ntmps15
  go_wp2
  go_ret
  exact ⟨rfl, heap_new _ _, grown_alloc (grown_self w none) _, by simp⟩
theorem copyR_any (b : Nat) (s t a : Int) (w : World) (hb : w.heap[b]? = some (RL s t a)) :
    Calls Try.prog 16 #[.pointer (some ⟨b, 0, none⟩)] w fun e w' => e = .returned (.pointer (some ⟨w.heap.size, 0, none⟩)) ∧ w'.heap[w.heap.size]? = some (RL s t a) ∧ w.grownBy w' none ∧ w.heap.size < w'.heap.size := by
  obtain ⟨c0, c1, c2, f0, f1, f2⟩ := cells3 hb
  clear hb
  go_enter Try.func16, Try.ntmps16
  go_wp2
  go_region
  go_wp2
  go_ret
  exact ⟨rfl, heap_new _ _, grown_drewN (grown_alloc (grown_self w none) _) 1, by simp⟩

/-- What is pending. -/
def pendC (s t a : Int) : Int := s * 8 + if a ≤ t then 128 else 0
theorem pend_yes {t a : Int} (h : a ≤ t) : ∀ s, pendC s t a = s * 8 + 128 := fun s => by unfold pendC; rw [if_pos h]
theorem pend_no {t a : Int} (h : ¬ a ≤ t) : ∀ s, pendC s t a = s * 8 + 0 := fun s => by unfold pendC; rw [if_neg h]
theorem pend_any (b : Nat) (s t a : Int) (w : World) (hb : w.heap[b]? = some (CL s t a)) (hs : s = 0 ∨ s = 1) :
    Calls Try.prog 19 #[.pointer (some ⟨b, 0, none⟩)] w fun e w' => e = .returned (.int .u64 (pendC s t a)) ∧ ∃ n, w' = w.drewN n := by
  obtain ⟨c0, c1, c2, f0, f1, f2⟩ := cells3 hb
  clear hb
  rcases hs with rfl | rfl <;> by_cases h : a ≤ t
  all_goals
    first | have HP := hide (pend_yes h) | have HP := hide (pend_no h)
    go_enter Try.func19, Try.ntmps19
    go_wp2
    go_quiet (fail)
    go_wp2
    go_ret
    exact ⟨ret_i (by rw [unhide HP]; first | rfl | decide), _, rfl⟩
theorem pendR_any (b : Nat) (s t a : Int) (w : World) (hb : w.heap[b]? = some (RL s t a)) (hs : s = 0 ∨ s = 1) :
    Calls Try.prog 20 #[.pointer (some ⟨b, 0, none⟩)] w fun e w' => e = .returned (.int .u64 (pendC s t a)) ∧ ∃ n, w' = w.drewN n := by
  obtain ⟨c0, c1, c2, f0, f1, f2⟩ := cells3 hb
  clear hb
  rcases hs with rfl | rfl <;> by_cases h : a ≤ t
  all_goals
    first | have HP := hide (pend_yes h) | have HP := hide (pend_no h)
    go_enter Try.func20, Try.ntmps20
    go_wp2
    go_quiet (fail)
    go_wp2
    go_ret
    exact ⟨ret_i (by rw [unhide HP]; first | rfl | decide), _, rfl⟩
end Go.Proofs.Ytiglekmfighgnaa
