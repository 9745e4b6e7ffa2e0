/- Tools: a new block that is filled. -/
import Derived.Test.YtblbgalpkodibaaDoorTools2
namespace Go.Proofs.YtblbgalpkodibaaDoor
open Go.RowKit

theorem setL_all (xs vs : List Value) (h : vs.length = xs.length) : setL xs 0 vs = vs := by
  apply List.ext_getElem?
  intro i
  rw [setL_get _ _ _ _ (by omega)]
  by_cases h1 : i < vs.length
  · rw [if_pos (by omega)]; simp
  · rw [if_neg (by omega), List.getElem?_eq_none (by omega), List.getElem?_eq_none (by omega)]
theorem there_new (w : World) (Z : Array Value) (T : TypeId) {n : Nat} (hz : Z.size = n) : (w.alloc (.cells Z T)).there w.heap.size 0 n := fun j hj => by
  have hh := heap_new' w (.cells Z T)
  unfold World.cell? World.frozen?
  simp only [hh, Nat.zero_add, Array.getElem?_eq_getElem (show j < Z.size by omega)]
  simp
theorem Heap.clone {w0 w : World} {L : List HP} (h : Heap w0 w L) (Z : Array Value) (T : TypeId) (xs : List Value) (hz : Z.size = xs.length) : Heap w0 ((w.alloc (.cells Z T)).setCells w.heap.size 0 xs) (HP.blk w.heap.size xs.toArray T :: L) := by
  have h1 := h.new Z T
  have e : Z = Z.toList.toArray := by simp
  rw [e] at h1
  have h2 := h1.sets xs 0
  rw [setL_all _ _ (by simpa using hz.symm)] at h2
  simpa using h2
end Go.Proofs.YtblbgalpkodibaaDoor
