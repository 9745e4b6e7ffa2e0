/- A state as a list of assertions, under a range over a function: what lies in cells abides the turns of the loop's own records. -/
import Derived.Test.YtblbgalpkodibaaDoorHeap
import Derived.RangeFuncFrom
import Derived.RangeFuncWrites
namespace Go.Proofs.YtblbgalpkodibaaDoor
open Go.RowKit

/-- All blocks of it are cells. -/
def HP.co (A : HP) : Prop := ∀ {w : World} {c : FP}, A.holds w c → ∀ k, c.all k → ∃ o : Obj, w.heap[k]? = some o ∧ o.isCells = true
def Co (L : List HP) : Prop := ∀ A ∈ L, A.co
theorem Co.nil : Co [] := fun _ h => by cases h
theorem Co.cons {A : HP} {L : List HP} (h : A.co) (k : Co L) : Co (A :: L) := fun B hB => by
  rcases List.mem_cons.1 hB with rfl | hB
  · exact h
  · exact k B hB
theorem HP.blk_co (b : Nat) (cs : Array Value) (T : TypeId) : (HP.blk b cs T).co := by
  rintro w c ⟨h, rfl⟩ k hk
  rcases hk with rfl | hk
  · exact ⟨_, h, rfl⟩
  · exact hk.elim
theorem Sl.co {w : World} {sz n : Nat} {v : Value} {xs : List Value} (h : Sl w sz v n xs) {g : Nat} (hg : sblk v = some g) : ∃ o : Obj, w.heap[g]? = some o ∧ o.isCells = true := by
  rcases h.form with ⟨rfl, _⟩ | ⟨g', o, cap, cur, T, rfl, hh, _⟩
  · cases hg
  · obtain rfl : g' = g := by simpa [sblk] using hg
    exact ⟨_, hh, rfl⟩
theorem HP.slw_co (v : Value) (sz n : Nat) (xs : List Value) : (HP.slw v sz n xs).co := by
  rintro w c ⟨h, rfl⟩ k hk
  rcases hk with hk | hk <;> exact h.co hk
theorem HP.sl_co (v : Value) (sz n : Nat) (xs : List Value) : (HP.sl v sz n xs).co := by
  rintro w c ⟨h, rfl⟩ k hk
  rcases hk with hk | hk
  · exact h.co (spare_blk hk)
  · exact h.co hk
/-- A turn of what is no cells, at or beyond the state's beginning. -/
theorem Heap.turned {w0 w w' : World} {L : List HP} (hL : Co L) (h : Heap w0 w L) {row : Option Nat} (hg : w.grownBy w' row) (hr : ∀ r, row = some r → w0.heap.size ≤ r ∧ ∃ o : Obj, w.heap[r]? = some o ∧ o.isCells = false) : Heap w0 w' L := by
  obtain ⟨hb, cs, hh, hp, hw⟩ := h
  have hco : ∀ {L : List HP} {cs : List FP}, Co L → Has w L cs → ∀ c ∈ cs, ∀ k, c.all k → ∃ o : Obj, w.heap[k]? = some o ∧ o.isCells = true := by
    intro L
    induction L with
    | nil => intro cs _ h c hc; rw [h.none] at hc; cases hc
    | cons A L ih =>
      intro cs hL h c hc k hk
      obtain ⟨c', cs', rfl, ha, hh⟩ := h.head
      rcases List.mem_cons.1 hc with rfl | hc
      · exact hL A (by simp) ha k hk
      · exact ih (fun B hB => hL B (by simp [hB])) hh c hc k hk
  refine ⟨hb.trans ⟨hg.os, hg.tape, hg.output, hg.size, fun k hk => hg.block k (Nat.lt_of_lt_of_le hk hb.size) (fun e => by have := (hr k e.symm).1; omega)⟩, cs, hh.loc fun c hc k hk => hg.block k (hh.lt c hc k hk) (fun e => ?_), hp, hw⟩
  obtain ⟨o, h1, h2⟩ := hco hL hh c hc k hk
  obtain ⟨_, o', h3, h4⟩ := hr k e.symm
  rw [h1] at h3
  injection h3 with h3
  rw [h3, h4] at h2
  cases h2
/-- So a state is an invariant of a range over a function. -/
theorem ownFrom_heap {β : Type} {w0 : World} {B : Nat} (hB : w0.heap.size ≤ B) {L : β → List HP} (hL : ∀ s, Co (L s)) : OwnFrom B (fun s W => Heap w0 W (L s)) :=
  fun s _ _ _ hs hg hr => Heap.turned (hL s) hs hg fun r e => ⟨Nat.le_trans hB (hr r e).1, (hr r e).2⟩
theorem ownFrom_ex {β γ : Type} {B : Nat} {I : γ → β → World → Prop} (h : ∀ x, OwnFrom B (I x)) : OwnFrom B (fun s W => ∃ x, I x s W) := fun s W W' row hs hg hr => by
  obtain ⟨x, hx⟩ := hs
  exact ⟨x, h x s W W' row hx hg hr⟩
theorem ownFrom_and {β : Type} {B : Nat} {p : β → Prop} {I : β → World → Prop} (h : OwnFrom B I) : OwnFrom B (fun s W => p s ∧ I s W) := fun s W W' row hs hg hr => ⟨hs.1, h s W W' row hs.2 hg hr⟩
/-- The blocks that are no cells lie as they lay, across what a state's walk did. -/
theorem KeepsOthers.grown {w w' : World} {row : Option Nat} (hg : w.grownBy w' row) (hr : ∀ r, row = some r → ∃ o : Obj, w.heap[r]? = some o ∧ o.isCells = true) : KeepsOthers w w' :=
  ⟨hg.size, fun k o hk ho => (hg.block k (lt_of_heap' hk) (fun e => by
    obtain ⟨o', h1, h2⟩ := hr k e.symm
    rw [hk] at h1
    injection h1 with h1
    rw [← h1, ho] at h2
    cases h2)).trans hk⟩
/-- All blocks of W that are no cells lie as they lay in W. -/
def HP.rest (W : World) : HP where
  holds w c := (∀ (k : Nat) (o : Obj), W.heap[k]? = some o → o.isCells = false → w.heap[k]? = some o) ∧ c = ⟨fun _ => False, fun k => ∃ o : Obj, W.heap[k]? = some o ∧ o.isCells = false⟩
  loc := by rintro w w' c ⟨h, rfl⟩ hk; exact ⟨fun k o h1 h2 => (hk k (.inr ⟨o, h1, h2⟩)).trans (h k o h1 h2), rfl⟩
  lt := by
    rintro w c ⟨h, rfl⟩ k hk
    rcases hk with hk | ⟨o, h1, h2⟩
    · exact hk.elim
    · exact lt_of_heap' (h k o h1 h2)
theorem Heap.rest {w0 W : World} {L : List HP} (hL : Co L) (h : Heap w0 W L) : Heap w0 W (HP.rest W :: L) := by
  obtain ⟨hb, cs, hh, hp, hw⟩ := h
  have hco : ∀ {L : List HP} {cs : List FP}, Co L → Has W L cs → ∀ c ∈ cs, ∀ k, c.all k → ∃ o : Obj, W.heap[k]? = some o ∧ o.isCells = true := by
    intro L
    induction L with
    | nil => intro cs _ h c hc; rw [h.none] at hc; cases hc
    | cons A L ih =>
      intro cs hL h c hc k hk
      obtain ⟨c', cs', rfl, ha, hh⟩ := h.head
      rcases List.mem_cons.1 hc with rfl | hc
      · exact hL A (by simp) ha k hk
      · exact ih (fun B hB => hL B (by simp [hB])) hh c hc k hk
  refine ⟨hb, _, .cons ⟨fun k o h1 _ => h1, rfl⟩ hh, List.pairwise_cons.2 ⟨fun d hd => ⟨fun x hx _ => hx.elim, fun x hx hy => ?_⟩, hp⟩, fun c hc x hx => ?_⟩
  · have hx1 : d.all x := .inl (by first | exact hx | exact hy)
    have hx2 : ∃ o : Obj, W.heap[x]? = some o ∧ o.isCells = false := by
      rcases (by first | exact hx | exact hy : (⟨fun _ => False, fun k => ∃ o : Obj, W.heap[k]? = some o ∧ o.isCells = false⟩ : FP).all x) with h | h
      · exact h.elim
      · exact h
    obtain ⟨o, h1, h2⟩ := hx2
    obtain ⟨o', h3, h4⟩ := hco hL hh d hd x hx1
    rw [h1] at h3
    injection h3 with h3
    rw [← h3, h2] at h4
    cases h4
  · rcases List.mem_cons.1 hc with rfl | hc
    · exact hx.elim
    · exact hw c hc x hx
theorem Heap.keeps {w0 W w : World} {L : List HP} (hs : W.heap.size ≤ w.heap.size) (h : Heap w0 w (HP.rest W :: L)) : KeepsOthers W w := by
  obtain ⟨c, hc⟩ := h.get
  exact ⟨hs, hc.1⟩
end Go.Proofs.YtblbgalpkodibaaDoor
