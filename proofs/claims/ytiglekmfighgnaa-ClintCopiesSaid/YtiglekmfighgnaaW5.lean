/- Read and Write of the Clint. -/
import Derived.Test.YtiglekmfighgnaaW3
import Derived.Test.YtiglekmfighgnaaBits
namespace Go.Proofs.Ytiglekmfighgnaa
open Go.RowKit

def CL (s t a : Int) : Obj := .cells #[.int .u64 s, .int .u64 t, .int .u64 a] 45 (0, 0)
theorem cells3 {w : World} {b : Nat} {x y z : Value} {T : TypeId} (h : w.heap[b]? = some (.cells #[x, y, z] T (0, 0))) :
    w.cell? ⟨b, 0, none⟩ = some x ∧ w.cell? ⟨b, 1, none⟩ = some y ∧ w.cell? ⟨b, 2, none⟩ = some z ∧ w.frozen? ⟨b, 0, none⟩ = false ∧ w.frozen? ⟨b, 1, none⟩ = false ∧ w.frozen? ⟨b, 2, none⟩ = false := by
  simp [World.cell?, World.frozen?, h]
theorem lt_of_heap {w : World} {b : Nat} {o : Obj} (h : w.heap[b]? = some o) : b < w.heap.size := (Array.getElem?_eq_some_iff.1 h).1
theorem grown_heap {w w' : World} {b : Nat} {o : Obj} (h : w.heap[b]? = some o) (hg : w.grownBy w' none) : w'.heap[b]? = some o :=
  (hg.block b (lt_of_heap h) (by simp)).trans h
theorem grown_alloc {w w1 : World} {row : Option Nat} (h : w.grownBy w1 row) (o : Obj) : w.grownBy (w1.alloc o) row :=
  ⟨h.os, h.tape, h.output, Nat.le_trans h.size (by simp), fun i hi hne => (Below.heap_alloc w1 o i (Nat.lt_of_lt_of_le hi h.size)).trans (h.block i hi hne)⟩
theorem grown_drewN {w w1 : World} {row : Option Nat} (h : w.grownBy w1 row) (n : Nat) : w.grownBy (w1.drewN n) row := ⟨h.os, h.tape, h.output, h.size, h.block⟩
theorem grown_set {w w1 : World} {b : Nat} (h : w.grownBy w1 none) (off : Nat) (x : Value) : w.grownBy (w1.setCell ⟨b, off, none⟩ x) (some b) :=
  ⟨h.os, h.tape, h.output, by simpa [World.setCell] using h.size, fun i hi hne => (Below.heap_setCell w1 ⟨b, off, none⟩ x i (fun e => hne (by rw [e]))).trans (h.block i hi (by simp))⟩
theorem heap_set {w : World} {b : Nat} {cs : Array Value} {T : TypeId} (h : w.heap[b]? = some (.cells cs T (0, 0))) (off : Nat) (x : Value) :
    (w.setCell ⟨b, off, none⟩ x).heap[b]? = some (.cells (cs.setIfInBounds off x) T (0, 0)) := by
  simp [World.setCell, Array.getElem?_modify, h]
theorem heap_later {w w1 : World} {b : Nat} {o : Obj} (h : w.heap[b]? = some o) (hg : w.grownBy w1 none) (o' : Obj) (n : Nat) : ((w1.alloc o').drewN n).heap[b]? = some o :=
  grown_heap h (grown_drewN (grown_alloc hg o') n)
theorem ret_ib {k : IntKind} {x y : Int} {c d : Bool} (h : x = y) (h2 : c = d) : Ending.returned (.tuple #[.int k x, .bool c]) = Ending.returned (.tuple #[.int k y, .bool d]) := by rw [h, h2]
theorem ret_b {c d : Bool} (h2 : c = d) : Ending.returned (.bool c) = Ending.returned (.bool d) := by rw [h2]
theorem look_cases (at_ size : Int) : (at_ = 0 ∧ size = 4 ∧ look at_ size = some (0, 0, 1)) ∨ (at_ = 16384 ∧ size = 8 ∧ look at_ size = some (2, 0, 64)) ∨ (at_ = 16384 ∧ size = 4 ∧ look at_ size = some (2, 0, 32)) ∨ (at_ = 16388 ∧ size = 4 ∧ look at_ size = some (2, 32, 32)) ∨ (at_ = 49144 ∧ size = 8 ∧ look at_ size = some (1, 0, 64)) ∨ (at_ = 49144 ∧ size = 4 ∧ look at_ size = some (1, 0, 32)) ∨ (at_ = 49148 ∧ size = 4 ∧ look at_ size = some (1, 32, 32)) ∨ look at_ size = none := by
  unfold look
  repeat' split
  all_goals simp_all

/-- What a read answers. -/
def readC (at_ size s t a : Int) : Int × Bool :=
  match look at_ size with
  | none => (0, false)
  | some (off, up, bits) => ((if off = 0 then s else if off = 1 then t else a) / 2 ^ up.toNat % 2 ^ bits.toNat, true)

set_option maxHeartbeats 1000000 in
theorem read_any (at_ size s t a : Int) (b : Nat) (w : World) (hb : w.heap[b]? = some (CL s t a))
    (hs0 : 0 ≤ s) (hs1 : s < 18446744073709551616) (ht0 : 0 ≤ t) (ht1 : t < 18446744073709551616) (ha0 : 0 ≤ a) (ha1 : a < 18446744073709551616) :
    Calls Try.prog 13 #[.pointer (some ⟨b, 0, none⟩), .int .u64 at_, .int .i64 size] w fun e w' => e = .returned (.tuple #[.int .u64 (readC at_ size s t a).1, .bool (readC at_ size s t a).2]) ∧ w.grownBy w' none := by
  rcases look_cases at_ size with ⟨rfl, rfl, hl⟩ | ⟨rfl, rfl, hl⟩ | ⟨rfl, rfl, hl⟩ | ⟨rfl, rfl, hl⟩ | ⟨rfl, rfl, hl⟩ | ⟨rfl, rfl, hl⟩ | ⟨rfl, rfl, hl⟩ | hl
  case inr.inr.inr.inr.inr.inr.inr =>
    go_enter Try.func13, Try.ntmps13
    go_wp2_with fail
    refine (parts_any b _).mono ?_
    rintro e w1 ⟨rfl, hT, hg⟩
    have hlook := tab_none hT hl
    have HL := hide hl
    clear hb hT hl
    unfold K at hlook
    go_wp2_with fail
    go_ret2
    refine ⟨ret_ib (k := .u64) ?_ ?_, ?_⟩
    · simp only [readC, unhide HL]
    · simp only [readC, unhide HL]
    · exact grown_alloc hg _
  all_goals
    go_enter Try.func13, Try.ntmps13
    go_wp2_with fail
    refine (parts_any b _).mono ?_
    rintro e w1 ⟨rfl, hT, hg⟩
    have hlook := tab_some hT hl
    have hb1 := grown_heap hb hg
    obtain ⟨c0, c1, c2, _, _, _⟩ := cells3 hb1
    have hlt := Nat.lt_of_lt_of_le (lt_of_heap hb) hg.size
    have HL := hide hl
    clear hb hT hb1 hl
    unfold K partV at hlook
    go_wp2_with fail
    go_quiet (fail)
    go_wp2_with fail
    go_ret2
    refine ⟨ret_ib (k := .u64) ?_ ?_, ?_⟩
    · simp only [readC, unhide HL]
      first
        | (rw [u64_mask64 _ (by omega) (by omega)]; simp; omega)
        | (rw [u64_mask32 _ (by omega) (by omega)]; simp; done)
        | (rw [u64_mask1 _ (by omega) (by omega)]; simp; done)
    · simp only [readC, unhide HL]
    · exact grown_drewN (grown_alloc hg _) _

/-- What a register is behind a write. -/
def putC (x v up bits : Int) : Int :=
  if bits = 64 then v else if bits = 1 then x / 2 * 2 + v % 2
  else if up = 0 then x / 4294967296 * 4294967296 + v % 4294967296 else v % 4294967296 * 4294967296 + x % 4294967296
def putAt (off : Nat) (at_ size v x : Int) : Int :=
  match look at_ size with
  | none => x
  | some (o, up, bits) => if o = off then putC x v up bits else x

set_option maxHeartbeats 1000000 in
theorem write_any (at_ size v s t a : Int) (b : Nat) (w : World) (hb : w.heap[b]? = some (CL s t a))
    (hs0 : 0 ≤ s) (hs1 : s < 18446744073709551616) (ht0 : 0 ≤ t) (ht1 : t < 18446744073709551616) (ha0 : 0 ≤ a) (ha1 : a < 18446744073709551616)
    (hv0 : 0 ≤ v) (hv1 : v < 18446744073709551616) :
    Calls Try.prog 11 #[.pointer (some ⟨b, 0, none⟩), .int .u64 at_, .int .i64 size, .int .u64 v] w fun e w' => e = .returned (.bool (look at_ size).isSome) ∧
      w'.heap[b]? = some (CL (putAt 0 at_ size v s) (putAt 1 at_ size v t) (putAt 2 at_ size v a)) ∧ w.grownBy w' (some b) := by
  have HB := hide hb
  rcases look_cases at_ size with ⟨rfl, rfl, hl⟩ | ⟨rfl, rfl, hl⟩ | ⟨rfl, rfl, hl⟩ | ⟨rfl, rfl, hl⟩ | ⟨rfl, rfl, hl⟩ | ⟨rfl, rfl, hl⟩ | ⟨rfl, rfl, hl⟩ | hl
  case inr.inr.inr.inr.inr.inr.inr =>
    go_enter Try.func11, Try.ntmps11
    go_wp2_with fail
    refine (parts_any b _).mono ?_
    rintro e w1 ⟨rfl, hT, hg⟩
    have hlook := tab_none hT hl
    have HL := hide hl
    clear hb hT hl
    unfold K at hlook
    go_wp2_with fail
    go_ret
    refine ⟨ret_b ?_, ?_, ?_⟩
    · simp only [unhide HL]; rfl
    · simp only [putAt, unhide HL]
      exact heap_later (unhide HB) hg _ 0
    · have := grown_alloc hg (.cells #[.pointer none, .int .i64 0, .int .i64 0] 48)
      exact ⟨this.os, this.tape, this.output, this.size, fun i hi _ => this.block i hi (by simp)⟩
  all_goals
    go_enter Try.func11, Try.ntmps11
    go_wp2_with fail
    refine (parts_any b _).mono ?_
    rintro e w1 ⟨rfl, hT, hg⟩
    have hlook := tab_some hT hl
    have hb1 := grown_heap hb hg
    obtain ⟨c0, c1, c2, f0, f1, f2⟩ := cells3 hb1
    have hlt := Nat.lt_of_lt_of_le (lt_of_heap hb) hg.size
    have HL := hide hl
    clear hb hT hb1 hl
    unfold K partV at hlook
    go_wp2_with fail
    go_quiet (fail)
    go_wp2_with fail
    go_region
    go_wp2_with fail
    go_ret
    refine ⟨ret_b ?_, ?_, grown_set (grown_drewN (grown_alloc hg _) _) _ _⟩
    · simp only [unhide HL]; rfl
    · rw [heap_set (heap_later (unhide HB) hg _ _)]
      simp only [putAt, unhide HL]
      first
        | (rw [merge64 _ _ (by omega) (by omega) (by omega) (by omega)]; simp [putC, CL]; done)
        | (rw [mergeLo _ _ (by omega) (by omega) (by omega) (by omega)]; simp [putC, CL]; done)
        | (rw [mergeHi _ _ (by omega) (by omega) (by omega) (by omega)]; simp [putC, CL]; done)
        | (rw [merge1 _ _ (by omega) (by omega) (by omega) (by omega)]; simp [putC, CL]; done)
end Go.Proofs.Ytiglekmfighgnaa
