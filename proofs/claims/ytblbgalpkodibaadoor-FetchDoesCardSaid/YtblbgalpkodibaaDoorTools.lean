/- Small tools of every seat. / More tools of every seat: slices at an address, cells of small blocks, new blocks. / Tools: a new block that is filled. -/
import Derived.Test.YtblbgalpkodibaaDoorHeap
import Derived.Test.YtblbgalpkodibaaDoorRegion
import Derived.Test.YtblbgalpkodibaaDoorBits
import Derived.Test.YtblbgalpkodibaaDoorFlat
import Derived.Test.YtblbgalpkodibaaDoorRows
import Derived.Deep.MidRow
import Derived.Deep.DeepCutAuto
import Derived.OwnWalk
namespace Go.Proofs.YtblbgalpkodibaaDoor
open Go.RowKit

theorem fol : Tryd.prog.follows .mixedOrders = true := by kernel_rfl
theorem hide {p : Prop} (h : p) : Hid p := h
theorem unhide {p : Prop} (h : Hid p) : p := h
def GN (w w' : World) : Prop := w.grownBy w' none
section
variable {w w' w2 : World}
theorem GN.refl (w : World) : GN w w := ⟨rfl, rfl, rfl, Nat.le_refl _, fun _ _ _ => rfl⟩
theorem GN.trans (h : GN w w') (k : GN w' w2) : GN w w2 := ⟨k.os.trans h.os, k.tape.trans h.tape, k.output.trans h.output, Nat.le_trans h.size k.size, fun i hi hn => (k.block i (Nat.lt_of_lt_of_le hi h.size) hn).trans (h.block i hi hn)⟩
theorem GN.alloc (h : GN w w') (o : Obj) : GN w (w'.alloc o) := h.trans ⟨rfl, rfl, rfl, by simp, fun k hk _ => Below.heap_alloc w' o k hk⟩
theorem GN.drew (h : GN w w') : GN w w'.drew := ⟨h.os, h.tape, h.output, h.size, h.block⟩
theorem GN.drewN (h : GN w w') (n : Nat) : GN w (w'.drewN n) := ⟨h.os, h.tape, h.output, h.size, h.block⟩
theorem GN.set (h : GN w w') {c : Nat} (hc : w.heap.size ≤ c) (o : Nat) (x : Value) : GN w (w'.setCell ⟨c, o, none⟩ x) :=
  ⟨h.os, h.tape, h.output, by have := h.size; simpa [World.setCell] using this, fun k hk hn => (Below.heap_setCell w' ⟨c, o, none⟩ x k (by simp; omega)).trans (h.block k hk hn)⟩
end
theorem GN.heap {w w' : World} {b : Nat} {o : Obj} (h : GN w w') (hb : w.heap[b]? = some o) : w'.heap[b]? = some o := (World.grownBy.block h b (lt_of_heap' hb) (by simp)).trans hb
theorem gn_of_below {w w' : World} (h : Below w.heap.size w w') : GN w w' := ⟨h.os, h.tape, h.output, h.size, fun k hk _ => h.block k hk⟩
theorem b64' {n : Int} (h : (Lit.int .u64 n).wf = true) : 0 ≤ n ∧ n < 18446744073709551616 := by
  simp [Lit.wf, IntKind.min, IntKind.max, IntKind.signed, IntKind.bits] at h; omega
theorem i64' {n : Int} (h : (Lit.int .i64 n).wf = true) : -9223372036854775808 ≤ n ∧ n < 9223372036854775808 := by
  simp [Lit.wf, IntKind.min, IntKind.max, IntKind.signed, IntKind.bits] at h; omega
theorem fits_c {k : Option IntKind} {ks : List (Option IntKind)} {vs : List Value} (h : Fits (k :: ks) vs) : ∃ v r, vs = v :: r ∧ fitK k v ∧ Fits ks r := by
  cases vs with
  | nil => exact h.elim
  | cons v r => exact ⟨v, r, rfl, h.1, h.2⟩
theorem fits_n {vs : List Value} (h : Fits [] vs) : vs = [] := by
  cases vs with
  | nil => rfl
  | cons v r => exact h.elim
theorem ret_bool {a b : Bool} (h : a = b) : Ending.returned (.bool a) = .returned (.bool b) := by rw [h]
theorem xor_zero (a b : Nat) : a ^^^ b = 0 ↔ a = b := by
  constructor
  · intro h
    apply Nat.eq_of_testBit_eq
    intro i
    have := congrArg (fun n => n.testBit i) h
    simp only [Nat.testBit_xor, Nat.zero_testBit] at this
    cases ha : a.testBit i <;> cases hb : b.testBit i <;> simp_all
  · intro h; rw [h, Nat.xor_self]
end Go.Proofs.YtblbgalpkodibaaDoor
namespace Go.Proofs.YtblbgalpkodibaaDoor
open Go.RowKit

section
variable {w w' : World} {sz n : Nat} {v : Value} {xs : List Value}
theorem Sl.addr (h : Sl w sz v n xs) (hn : 0 < n * sz) : ∃ g o cap, v = .slice (some ⟨g, o, none⟩) n cap ∧ n ≤ cap := by
  obtain ⟨g, o, cap, hv, hc, _⟩ := h.cell hn
  exact ⟨g, o, cap, hv, hc⟩
theorem Sl.at_ {g o cap : Nat} (h : Sl w sz (.slice (some ⟨g, o, none⟩) n cap) n xs) {j : Nat} (hj : j < n * sz) : g < w.heap.size ∧ w.cell? ⟨g, o + j, none⟩ = xs[j]? ∧ w.frozen? ⟨g, o + j, none⟩ = false := by
  obtain ⟨g', o', c', hv, _, hl, _, h1, h2⟩ := h.cell hj
  injection hv with hv _ _
  injection hv with hv
  injection hv with e1 e2
  subst e1 e2
  exact ⟨hl, h1, h2⟩
theorem Sl.alloc (h : Sl w sz v n xs) (o : Obj) : Sl (w.alloc o) sz v n xs := h.kept ((GN.refl w).alloc o) (by simp)
theorem Sl.gn (h : Sl w sz v n xs) (hg : GN w w') : Sl w' sz v n xs := h.kept (row := none) hg (by simp)
/-- The slice of one element that append is given. -/
theorem Sl.row (w : World) (T : TypeId) (ys : List Value) {k : Nat} (hk : k = w.heap.size) : Sl (w.alloc (.cells ys.toArray T)) ys.length (.slice (some ⟨k, 0, none⟩) 1 1) 1 ys := by
  subst hk
  exact ⟨by simp, .inr ⟨w.heap.size, 0, 1, _, T, rfl, heap_new' w _, Nat.le_refl _, by simp, by simp⟩⟩
theorem Sl.single (w : World) (T : TypeId) (x : Value) {k : Nat} (hk : k = w.heap.size) : Sl (w.alloc (.cells #[x] T)) 1 (.slice (some ⟨k, 0, none⟩) 1 1) 1 [x] := Sl.row w T [x] hk
end
theorem grown_b1 (w : World) (o : Obj) : GN w (w.alloc o) := (GN.refl w).alloc o
section
variable {w : World} {b : Nat} {a0 a1 a2 a3 a4 : Value} {T : TypeId}
theorem cells1 (h : w.heap[b]? = some (.cells #[a0] T (0, 0))) : w.cell? ⟨b, 0, none⟩ = some a0 ∧ w.frozen? ⟨b, 0, none⟩ = false := by simp [World.cell?, World.frozen?, h]
theorem cells3f (h : w.heap[b]? = some (.cells #[a0, a1, a2] T (0, 0))) :
    w.cell? ⟨b, 0, none⟩ = some a0 ∧ w.cell? ⟨b, 1, none⟩ = some a1 ∧ w.cell? ⟨b, 2, none⟩ = some a2 ∧
    w.frozen? ⟨b, 0, none⟩ = false ∧ w.frozen? ⟨b, 1, none⟩ = false ∧ w.frozen? ⟨b, 2, none⟩ = false := by
  simp [World.cell?, World.frozen?, h]
theorem cells4f (h : w.heap[b]? = some (.cells #[a0, a1, a2, a3] T (0, 0))) :
    w.cell? ⟨b, 0, none⟩ = some a0 ∧ w.cell? ⟨b, 1, none⟩ = some a1 ∧ w.cell? ⟨b, 2, none⟩ = some a2 ∧ w.cell? ⟨b, 3, none⟩ = some a3 ∧
    w.frozen? ⟨b, 0, none⟩ = false ∧ w.frozen? ⟨b, 1, none⟩ = false ∧ w.frozen? ⟨b, 2, none⟩ = false ∧ w.frozen? ⟨b, 3, none⟩ = false := by
  simp [World.cell?, World.frozen?, h]
end
/-- An element's address. -/
theorem run_ixat {P : Program} (t e : TypeId) (sz : Nat) (ht : P.underlying t = some (.slice e)) (hs : (P.info? e).map (·.size) = some sz) (g o n c k : Nat) (h : k < n) (w : World) :
    (Instr.indexAt t (.slice (some ⟨g, o, none⟩) n c) (.int .i64 (k : Int))).run P w = .ok (.pointer (some ⟨g, o + k * sz, none⟩)) w := by
  have he : P.elem t = e := by simp [Program.elem, ht]
  rw [run_indexAt_slice w t ⟨g, o, none⟩ n c .i64 k (by rw [ht, he])]
  cases hi : P.info? e with
  | none => rw [hi] at hs; cases hs
  | some i =>
    rw [hi] at hs
    have hs : i.size = sz := by simpa using hs
    simp [he, sizeOf, typeInfo, hi, hs, h, Addr.add]
/-- A store of one cell, in the middle of a list. -/
theorem wpList_store_at {P : Program} {ops : Array Oper} {rest : List Oper} {op : Oper} {a : Act} {w : World} {Q : Exit → Act → World → Prop} (hgd : op.guard = none) (ty : TypeId) (x y : Operand) (ho : op.op = .store ty x y) (b o : Nat) (v : Value)
    (hx : a.eval x = .pointer (some ⟨b, o, none⟩)) (hy : a.eval y = v) (hv : v.cells = #[v]) (h1 : v.oneCell' = true) (hz : (P.info? ty).map (·.size) = some 1) {u : Value} (hc : w.cell? ⟨b, o, none⟩ = some u) (hf : w.frozen? ⟨b, o, none⟩ = false)
    (h : wpList P ops Q rest (a.put op.dst undef) (w.setCell ⟨b, o, none⟩ v)) : wpList P ops Q (op :: rest) a w :=
  wpList_plain hgd fun _ hK => by
    have hz1 : (sizeOf ty).run P w = .ok 1 w := by
      cases hi : P.info? ty with
      | none => rw [hi] at hz; cases hz
      | some i => rw [hi] at hz; have hz : i.size = 1 := by simpa using hz
                  simp [sizeOf, typeInfo, hi, hz]
    have hr := run_store1 (P := P) (t := ty) hz1 hv h1 hc hf
    unfold Oper.wp execOp
    simp only [ho, hx, hy, Sem.run_bind, hr, Result.andThen_ok]
    exact hK _ _ h
section
variable {w0 w : World} {L : List HP}
/-- A cut of a slice of one's own. -/
theorem Heap.cutw {v v' : Value} {sz n m : Nat} {xs ys : List Value} (h : Heap w0 w (HP.slw v sz n xs :: L)) (hs : Sl w sz v' m ys) (hb : sblk v' = sblk v ∨ sblk v' = none) : Heap w0 w (HP.slw v' sz m ys :: L) :=
  h.step fun c ⟨h1, e⟩ => ⟨_, ⟨hs, rfl⟩, by
    subst e
    have o1 : ∀ x, sblk v' = .some x → sblk v = .some x := by
      intro x hx
      rcases hb with e | e
      · rw [e] at hx; exact hx
      · rw [e] at hx; cases hx
    exact .of_grown (row := none) ⟨rfl, rfl, rfl, Nat.le_refl _, fun _ _ _ => rfl⟩ (by simp) (fun x hx => .inl (o1 x hx)) fun x hx => .inl (by rcases hx with hx | hx <;> first | exact .inl (o1 x hx) | exact .inr (o1 x hx))⟩
/-- A block that has been made since. -/
theorem Heap.freshBlk {w' : World} (h : Heap w0 w L) (hg : GN w w') {k : Nat} {cs : Array Value} {T : TypeId} (hb : w'.heap[k]? = some (.cells cs T (0, 0))) (hk : w.heap.size ≤ k) : Heap w0 w' (HP.blk k cs T :: L) :=
  h.make (As := [HP.blk k cs T]) (ds := [_]) hg (.cons ⟨hb, rfl⟩ .nil) (List.pairwise_singleton _ _) (fun c hc x hx => by
    simp only [List.mem_cons, List.mem_nil_iff, or_false] at hc
    subst hc
    rcases hx with hx | hx
    · exact hx ▸ hk
    · exact hx.elim)
/-- A slice of one element, in a block of its own. -/
theorem Heap.row (h : Heap w0 w L) (ys : List Value) (T : TypeId) : Heap w0 (w.alloc (.cells ys.toArray T)) (HP.slw (.slice (some ⟨w.heap.size, 0, none⟩) 1 1) ys.length 1 ys :: L) :=
  h.make (w' := w.alloc (.cells ys.toArray T)) (As := [HP.slw (.slice (some ⟨w.heap.size, 0, none⟩) 1 1) ys.length 1 ys]) (ds := [_]) ⟨rfl, rfl, rfl, by simp, fun k hk _ => Below.heap_alloc w _ k hk⟩
    (.cons ⟨Sl.row w T ys rfl, rfl⟩ .nil) (List.pairwise_singleton _ _) (fun c hc x hx => by
    simp only [List.mem_cons, List.mem_nil_iff, or_false] at hc
    subst hc
    rcases hx with hx | hx <;> (injection hx with hx; exact hx ▸ Nat.le_refl _))
theorem erase_perm : ∀ (l : List HP) (k : Nat) (A : HP), l[k]? = some A → l.Perm (A :: l.eraseIdx k) := by
  intro l
  induction l with
  | nil => intro k A h; simp at h
  | cons a l ih =>
    intro k A h
    cases k with
    | zero => simp at h; subst h; exact .refl _
    | succ k => exact ((ih k A (by simpa using h)).cons a).trans (.swap _ _ _)
theorem Heap.nth (h : Heap w0 w L) (k : Nat) {A : HP} (hk : L[k]? = some A) : Heap w0 w (A :: L.eraseIdx k) := h.perm (erase_perm L k A hk)
theorem Heap.f6 {A B C D E F : HP} (h : Heap w0 w (A :: B :: C :: D :: E :: F :: L)) : Heap w0 w (F :: A :: B :: C :: D :: E :: L) := h.nth 5 rfl
theorem Heap.f7 {A B C D E F G : HP} (h : Heap w0 w (A :: B :: C :: D :: E :: F :: G :: L)) : Heap w0 w (G :: A :: B :: C :: D :: E :: F :: L) := h.nth 6 rfl
theorem Heap.single (h : Heap w0 w L) (x : Value) (T : TypeId) : Heap w0 (w.alloc (.cells #[x] T)) (HP.slw (.slice (some ⟨w.heap.size, 0, none⟩) 1 1) 1 1 [x] :: L) := h.row [x] T
end
end Go.Proofs.YtblbgalpkodibaaDoor
namespace Go.Proofs.YtblbgalpkodibaaDoor
open Go.RowKit

theorem setL_all (xs vs : List Value) (h : vs.length = xs.length) : setL xs 0 vs = vs := by
  apply List.ext_getElem?
  intro i
  rw [setL_get _ _ _ _ (by omega)]
  by_cases h1 : i < vs.length
  · rw [if_pos (by omega)]; simp
  · rw [if_neg (by omega), List.getElem?_eq_none (by omega), List.getElem?_eq_none (by omega)]
theorem there_new (w : World) (Z : Array Value) (T : TypeId) {n : Nat} (hz : Z.size = n) : (w.alloc (.cells Z T)).there w.heap.size 0 n := fun j hj => by
  have hh := heap_new' w (.cells Z T)
  unfold World.cell? World.frozen?
  simp only [hh, Nat.zero_add, Array.getElem?_eq_getElem (show j < Z.size by omega)]
  simp
theorem Heap.clone {w0 w : World} {L : List HP} (h : Heap w0 w L) (Z : Array Value) (T : TypeId) (xs : List Value) (hz : Z.size = xs.length) : Heap w0 ((w.alloc (.cells Z T)).setCells w.heap.size 0 xs) (HP.blk w.heap.size xs.toArray T :: L) := by
  have h1 := h.new Z T
  have e : Z = Z.toList.toArray := by simp
  rw [e] at h1
  have h2 := h1.sets xs 0
  rw [setL_all _ _ (by simpa using hz.symm)] at h2
  simpa using h2
end Go.Proofs.YtblbgalpkodibaaDoor
