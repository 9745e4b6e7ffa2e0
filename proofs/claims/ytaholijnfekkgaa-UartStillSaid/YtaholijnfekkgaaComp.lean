/- Objects that own blocks and read others: what one of them does leaves the others alone. And the walk's word for append. -/
import Derived.Test.YtaholijnfekkgaaSlices
namespace Go.Proofs.Ytaholijnfekkgaa
open Go.RowKit

structure Comp where
  own : Nat → Prop
  rd : Nat → Prop
def Comp.all (A : Comp) (x : Nat) : Prop := A.own x ∨ A.rd x
def Comp.none : Comp := ⟨fun _ => False, fun _ => False⟩
structure Disj (A B : Comp) : Prop where
  one : ∀ x, A.own x → ¬ B.all x
  two : ∀ x, B.own x → ¬ A.all x
theorem Disj.symm {A B : Comp} (h : Disj A B) : Disj B A := ⟨h.two, h.one⟩

/-- From w to w': A has become A', nothing else has turned. -/
structure Turn (w w' : World) (A A' : Comp) : Prop where
  os : w'.os = w.os
  tape : w'.tape = w.tape
  output : w'.output = w.output
  size : w.heap.size ≤ w'.heap.size
  block : ∀ k, k < w.heap.size → ¬ A.own k → w'.heap[k]? = w.heap[k]?
  own : ∀ x, A'.own x → A.own x ∨ w.heap.size ≤ x
  all : ∀ x, A'.all x → A.all x ∨ w.heap.size ≤ x
  lt : ∀ x, A'.all x → x < w'.heap.size

/-- What a law's walk holds: below the old size nothing has turned, and its objects are apart. -/
structure Pack (w0 w : World) (l : List Comp) : Prop where
  below : Below w0.heap.size w0 w
  base : ∀ A ∈ l, ∀ x, A.own x → w0.heap.size ≤ x
  lt : ∀ A ∈ l, ∀ x, A.all x → x < w.heap.size
  apart : l.Pairwise Disj

section
variable {w0 w w' w'' : World} {A A' A'' B : Comp} {l : List Comp}
theorem Turn.trans (h : Turn w w' A A') (k : Turn w' w'' A' A'') : Turn w w'' A A'' where
  os := k.os.trans h.os
  tape := k.tape.trans h.tape
  output := k.output.trans h.output
  size := Nat.le_trans h.size k.size
  block := fun i hi hn => (k.block i (Nat.lt_of_lt_of_le hi h.size) (fun ho => by rcases h.own i ho with h1 | h1; exact hn h1; omega)).trans (h.block i hi hn)
  own := fun x hx => by
    rcases k.own x hx with h1 | h1
    · exact h.own x h1
    · exact .inr (Nat.le_trans h.size h1)
  all := fun x hx => by
    rcases k.all x hx with h1 | h1
    · exact h.all x h1
    · exact .inr (Nat.le_trans h.size h1)
  lt := k.lt
theorem Turn.of_grown {row : Option Nat} (hg : w.grownBy w' row) (hr : ∀ k, row = some k → A.own k) (hown : ∀ x, A'.own x → A.own x ∨ w.heap.size ≤ x) (hall : ∀ x, A'.all x → A.all x ∨ w.heap.size ≤ x)
    (hlt : ∀ x, A'.all x → x < w'.heap.size) : Turn w w' A A' :=
  ⟨hg.os, hg.tape, hg.output, hg.size, fun k hk hn => hg.block k hk (fun e => hn (hr k e.symm)), hown, hall, hlt⟩
theorem Turn.quiet (hg : w.grownBy w' none) (hlt : ∀ x, A.all x → x < w.heap.size) : Turn w w' A A :=
  .of_grown hg (by simp) (fun _ h => .inl h) (fun _ h => .inl h) (fun x h => Nat.lt_of_lt_of_le (hlt x h) hg.size)
theorem Turn.disj (h : Turn w w' A A') (hd : Disj A B) (hlt : ∀ x, B.all x → x < w.heap.size) : Disj A' B where
  one := fun x hx hb => by
    rcases h.own x hx with h1 | h1
    · exact hd.one x h1 hb
    · have := hlt x hb; omega
  two := fun x hx ha => by
    rcases h.all x ha with h1 | h1
    · exact hd.two x hx h1
    · have := hlt x (.inl hx); omega
theorem Pack.below_head (h : Pack w0 w (A :: l)) (t : Turn w w' A A') : Below w0.heap.size w0 w' :=
  h.below.trans ⟨t.os, t.tape, t.output, t.size, fun k hk => t.block k (Nat.lt_of_lt_of_le hk h.below.size) (fun ho => by have := h.base A (by simp) k ho; omega)⟩
theorem Pack.turn (h : Pack w0 w (A :: l)) (t : Turn w w' A A') : Pack w0 w' (A' :: l) where
  below := h.below_head t
  base := fun C hC x hx => by
    rcases List.mem_cons.1 hC with rfl | hC
    · rcases t.own x hx with h1 | h1
      · exact h.base A (by simp) x h1
      · exact Nat.le_trans h.below.size h1
    · exact h.base C (by simp [hC]) x hx
  lt := fun C hC x hx => by
    rcases List.mem_cons.1 hC with rfl | hC
    · exact t.lt x hx
    · exact Nat.lt_of_lt_of_le (h.lt C (by simp [hC]) x hx) t.size
  apart := by
    obtain ⟨h1, h2⟩ := List.pairwise_cons.1 h.apart
    exact List.pairwise_cons.2 ⟨fun C hC => t.disj (h1 C hC) (h.lt C (by simp [hC])), h2⟩
theorem Pack.perm {l' : List Comp} (h : Pack w0 w l) (p : l.Perm l') : Pack w0 w l' :=
  ⟨h.below, fun A hA => h.base A (p.mem_iff.2 hA), fun A hA => h.lt A (p.mem_iff.2 hA), (p.pairwise_iff (fun h => Disj.symm h)).1 h.apart⟩
theorem Pack.swap (h : Pack w0 w (A :: B :: l)) : Pack w0 w (B :: A :: l) := h.perm (List.Perm.swap _ _ _)
theorem Pack.tail (h : Pack w0 w (A :: l)) : Pack w0 w l :=
  ⟨h.below, fun C hC => h.base C (by simp [hC]), fun C hC => h.lt C (by simp [hC]), (List.pairwise_cons.1 h.apart).2⟩
theorem Pack.more (h : Pack w0 w l) : Pack w0 w (Comp.none :: l) :=
  ⟨h.below, fun C hC x hx => by rcases List.mem_cons.1 hC with rfl | hC; exact hx.elim; exact h.base C hC x hx,
   fun C hC x hx => by rcases List.mem_cons.1 hC with rfl | hC; exact (hx.elim id id).elim; exact h.lt C hC x hx,
   List.pairwise_cons.2 ⟨fun C _ => ⟨fun _ hx => hx.elim, fun _ _ ha => (ha.elim id id).elim⟩, h.apart⟩⟩
theorem Pack.nil (h : Below w0.heap.size w0 w) : Pack w0 w [] := ⟨h, by simp, by simp, List.Pairwise.nil⟩
/-- What another object reads has not turned. -/
theorem Pack.keep (h : Pack w0 w (A :: l)) (t : Turn w w' A A') (hB : B ∈ l) : ∀ k, B.all k → w'.heap[k]? = w.heap[k]? := fun k hk =>
  t.block k (h.lt B (by simp [hB]) k hk) (fun ho => ((List.pairwise_cons.1 h.apart).1 B hB).one k ho hk)
theorem Pack.quiet (h : Pack w0 w l) (hg : w.grownBy w' none) : Pack w0 w' l :=
  ⟨h.below.grown hg h.below.size (by simp), h.base, fun A hA x hx => Nat.lt_of_lt_of_le (h.lt A hA x hx) hg.size, h.apart⟩
end

section
variable {P : Program} {w : World}
theorem wp_append_sl {o : Oper} {a : Act} {K : Act → World → Prop} {Q : Exit → Act → World → Prop} (s x : Operand) (t : TypeId)
    (ho : o.op = .call { callee := .builtin .append, args := #[s, x], argTypes := #[t, t] })
    (e : TypeId) (i : TypeInfo) (z : Value) (sz bytes : Nat) (ht : P.underlying t = some (.slice e)) (hi : P.info? e = some i) (hz : i.zero = some z)
    (hsize : i.size = sz) (hby : i.bytes = bytes) (hzs : z.cells.size = sz)
    {v u : Value} {n m : Nat} {xs ys : List Value} (hs : a.eval s = v) (hx : a.eval x = u) (hv : Sl w sz v n xs) (hu : Sl w sz u m ys) (h1 : ∀ y ∈ ys, y.oneCell' = true)
    (h63 : n + m ≤ 9223372036854775807) (hbytes : (n + m) * bytes ≤ 140737488355328)
    (h : ∀ v' w', Sl w' sz v' (n + m) (xs ++ ys) → w.grownBy w' (spare v) → (sblk v' = sblk v ∨ sblk v' = some w.heap.size) → (spare v' = none ∨ spare v' = spare v ∨ spare v' = some w.heap.size) → K (a.put o.dst v') w') : o.wp P a w K Q := by
  obtain ⟨v', w', hr, h2, h3, h4, h5⟩ := run_append_sl (P := P) w t o.type e i z sz bytes ht hi hz hsize hby hzs hv hu h1 h63 hbytes
  unfold Oper.wp execOp
  simp only [ho, resolve, invoke, builtin, Sem.run_bind, Sem.run_pure, Result.andThen_ok, List.map_toArray, List.map_cons, List.map_nil, hs, hx, hr]
  exact h v' w' h2 h3 h4 h5
theorem wpList_append_sl {ops : Array Oper} {rest : List Oper} {o : Oper} {a : Act} {Q : Exit → Act → World → Prop} (hgd : o.guard = none) (s x : Operand) (t : TypeId)
    (ho : o.op = .call { callee := .builtin .append, args := #[s, x], argTypes := #[t, t] })
    (e : TypeId) (i : TypeInfo) (z : Value) (sz bytes : Nat) (ht : P.underlying t = some (.slice e)) (hi : P.info? e = some i) (hz : i.zero = some z)
    (hsize : i.size = sz) (hby : i.bytes = bytes) (hzs : z.cells.size = sz)
    {v u : Value} {n m : Nat} {xs ys : List Value} (hs : a.eval s = v) (hx : a.eval x = u) (hv : Sl w sz v n xs) (hu : Sl w sz u m ys) (h1 : ∀ y ∈ ys, y.oneCell' = true)
    (h63 : n + m ≤ 9223372036854775807) (hbytes : (n + m) * bytes ≤ 140737488355328)
    (h : ∀ v' w', Sl w' sz v' (n + m) (xs ++ ys) → w.grownBy w' (spare v) → (sblk v' = sblk v ∨ sblk v' = some w.heap.size) → (spare v' = none ∨ spare v' = spare v ∨ spare v' = some w.heap.size) → wpList P ops Q rest (a.put o.dst v') w') : wpList P ops Q (o :: rest) a w :=
  wpList_plain hgd fun _ hK => wp_append_sl s x t ho e i z sz bytes ht hi hz hsize hby hzs hs hx hv hu h1 h63 hbytes fun v' w' h2 h3 h4 h5 => hK _ _ (h v' w' h2 h3 h4 h5)

theorem grown_self (w : World) (row : Option Nat) : w.grownBy w row := ⟨rfl, rfl, rfl, Nat.le_refl _, fun _ _ _ => rfl⟩
theorem grown_alloc {w w1 : World} {row : Option Nat} (h : w.grownBy w1 row) (o : Obj) : w.grownBy (w1.alloc o) row :=
  ⟨h.os, h.tape, h.output, Nat.le_trans h.size (by simp), fun i hi hne => (Below.heap_alloc w1 o i (Nat.lt_of_lt_of_le hi h.size)).trans (h.block i hi hne)⟩
theorem grown_drewN {w w1 : World} {row : Option Nat} (h : w.grownBy w1 row) (n : Nat) : w.grownBy (w1.drewN n) row := ⟨h.os, h.tape, h.output, h.size, h.block⟩
theorem grown_set {w w1 : World} {b : Nat} (h : w.grownBy w1 none) (off : Nat) (x : Value) : w.grownBy (w1.setCell ⟨b, off, none⟩ x) (some b) :=
  ⟨h.os, h.tape, h.output, by simpa [World.setCell] using h.size, fun i hi hne => (Below.heap_setCell w1 ⟨b, off, none⟩ x i (fun e => hne (by rw [e]))).trans (h.block i hi (by simp))⟩
theorem lt_of_heap {w : World} {b : Nat} {o : Obj} (h : w.heap[b]? = some o) : b < w.heap.size := (Array.getElem?_eq_some_iff.1 h).1
theorem grown_heap {w w' : World} {b : Nat} {o : Obj} (h : w.heap[b]? = some o) (hg : w.grownBy w' none) : w'.heap[b]? = some o :=
  (hg.block b (lt_of_heap h) (by simp)).trans h
theorem grown_other {w w' : World} {b : Nat} {row : Option Nat} {o : Obj} (h : w.heap[b]? = some o) (hg : w.grownBy w' row) (hne : row ≠ some b) : w'.heap[b]? = some o :=
  (hg.block b (lt_of_heap h) (fun e => hne e.symm)).trans h
theorem heap_set {w : World} {b : Nat} {cs : Array Value} {T : TypeId} (h : w.heap[b]? = some (.cells cs T (0, 0))) (off : Nat) (x : Value) :
    (w.setCell ⟨b, off, none⟩ x).heap[b]? = some (.cells (cs.setIfInBounds off x) T (0, 0)) := by
  simp [World.setCell, Array.getElem?_modify, h]
theorem heap_new (w : World) (o : Obj) : (w.alloc o).heap[w.heap.size]? = some o := by show (w.heap.push o)[w.heap.size]? = _; simp
theorem hide {p : Prop} (h : p) : Hid p := h
theorem unhide {p : Prop} (h : Hid p) : p := h
/-- A slice of one element that has just been made. -/
theorem Sl.one (w : World) (T : TypeId) (x : Value) : Sl (w.alloc (.cells #[x] T)) 1 (.slice (some ⟨w.heap.size, 0, none⟩) 1 1) 1 [x] :=
  ⟨rfl, .inr ⟨w.heap.size, 0, 1, #[x], T, rfl, heap_new w _, Nat.le_refl _, by simp, by simp⟩⟩
theorem Sl.alloc {sz n : Nat} {v : Value} {xs : List Value} (h : Sl w sz v n xs) (o : Obj) : Sl (w.alloc o) sz v n xs :=
  h.kept (grown_alloc (grown_self w none) o) (by simp)
theorem Sl.set {sz n b off : Nat} {v x : Value} {xs : List Value} (h : Sl w sz v n xs) (hne : sblk v ≠ some b) : Sl (w.setCell ⟨b, off, none⟩ x) sz v n xs :=
  h.kept (grown_set (grown_self w none) off x) (fun g hg e => hne (by rw [hg, e]))
theorem spare_lt {w : World} {sz n : Nat} {v : Value} {xs : List Value} (h : Sl w sz v n xs) {g : Nat} (hg : spare v = some g) : g < w.heap.size := h.blk_lt (spare_blk hg)
end
end Go.Proofs.Ytaholijnfekkgaa
