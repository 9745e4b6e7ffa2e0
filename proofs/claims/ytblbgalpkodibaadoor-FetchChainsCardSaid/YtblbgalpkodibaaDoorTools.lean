/- Small tools of every seat. -/
import Derived.Test.YtblbgalpkodibaaDoorHeap
import Derived.Test.YtblbgalpkodibaaDoorRegion
import Derived.Test.YtblbgalpkodibaaDoorRegion2
import Derived.Test.YtblbgalpkodibaaDoorBits
import Derived.Test.YtblbgalpkodibaaDoorFlat
import Derived.Test.YtblbgalpkodibaaDoorRows
import Derived.Deep.MidRow
import Derived.Deep.DeepCutAuto
namespace Go.Proofs.YtblbgalpkodibaaDoor
open Go.RowKit

theorem fol : Tryd.prog.follows .mixedOrders = true := by kernel_rfl
theorem hide {p : Prop} (h : p) : Hid p := h
theorem unhide {p : Prop} (h : Hid p) : p := h
def GN (w w' : World) : Prop := w.grownBy w' none
section
variable {w w' w2 : World}
theorem GN.refl (w : World) : GN w w := ⟨rfl, rfl, rfl, Nat.le_refl _, fun _ _ _ => rfl⟩
theorem GN.trans (h : GN w w') (k : GN w' w2) : GN w w2 := ⟨k.os.trans h.os, k.tape.trans h.tape, k.output.trans h.output, Nat.le_trans h.size k.size, fun i hi hn => (k.block i (Nat.lt_of_lt_of_le hi h.size) hn).trans (h.block i hi hn)⟩
theorem GN.alloc (h : GN w w') (o : Obj) : GN w (w'.alloc o) := h.trans ⟨rfl, rfl, rfl, by simp, fun k hk _ => Below.heap_alloc w' o k hk⟩
theorem GN.drew (h : GN w w') : GN w w'.drew := ⟨h.os, h.tape, h.output, h.size, h.block⟩
theorem GN.drewN (h : GN w w') (n : Nat) : GN w (w'.drewN n) := ⟨h.os, h.tape, h.output, h.size, h.block⟩
theorem GN.set (h : GN w w') {c : Nat} (hc : w.heap.size ≤ c) (o : Nat) (x : Value) : GN w (w'.setCell ⟨c, o, none⟩ x) :=
  ⟨h.os, h.tape, h.output, by have := h.size; simpa [World.setCell] using this, fun k hk hn => (Below.heap_setCell w' ⟨c, o, none⟩ x k (by simp; omega)).trans (h.block k hk hn)⟩
end
theorem GN.heap {w w' : World} {b : Nat} {o : Obj} (h : GN w w') (hb : w.heap[b]? = some o) : w'.heap[b]? = some o := (World.grownBy.block h b (lt_of_heap' hb) (by simp)).trans hb
theorem gn_of_below {w w' : World} (h : Below w.heap.size w w') : GN w w' := ⟨h.os, h.tape, h.output, h.size, fun k hk _ => h.block k hk⟩
theorem b64' {n : Int} (h : (Lit.int .u64 n).wf = true) : 0 ≤ n ∧ n < 18446744073709551616 := by
  simp [Lit.wf, IntKind.min, IntKind.max, IntKind.signed, IntKind.bits] at h; omega
theorem i64' {n : Int} (h : (Lit.int .i64 n).wf = true) : -9223372036854775808 ≤ n ∧ n < 9223372036854775808 := by
  simp [Lit.wf, IntKind.min, IntKind.max, IntKind.signed, IntKind.bits] at h; omega
theorem fits_c {k : Option IntKind} {ks : List (Option IntKind)} {vs : List Value} (h : Fits (k :: ks) vs) : ∃ v r, vs = v :: r ∧ fitK k v ∧ Fits ks r := by
  cases vs with
  | nil => exact h.elim
  | cons v r => exact ⟨v, r, rfl, h.1, h.2⟩
theorem fits_n {vs : List Value} (h : Fits [] vs) : vs = [] := by
  cases vs with
  | nil => rfl
  | cons v r => exact h.elim
theorem ret_bool {a b : Bool} (h : a = b) : Ending.returned (.bool a) = .returned (.bool b) := by rw [h]
theorem xor_zero (a b : Nat) : a ^^^ b = 0 ↔ a = b := by
  constructor
  · intro h
    apply Nat.eq_of_testBit_eq
    intro i
    have := congrArg (fun n => n.testBit i) h
    simp only [Nat.testBit_xor, Nat.zero_testBit] at this
    cases ha : a.testBit i <;> cases hb : b.testBit i <;> simp_all
  · intro h; rw [h, Nat.xor_self]
end Go.Proofs.YtblbgalpkodibaaDoor
