/- A state as a list of assertions, under a range over a function: what lies in cells abides the turns of the loop's own records. / A state as a list of assertions under a range over a function, where some blocks are no cells but lie below the loop's beginning; objects that are no cells as assertions; a list as one assertion. -/
import Derived.Test.YtblbgalpkodibaaDoorHeap
import Derived.RangeFuncFrom
import Derived.RangeFuncWrites
namespace Go.Proofs.YtblbgalpkodibaaDoor
open Go.RowKit

/-- All blocks of it are cells. -/
def HP.co (A : HP) : Prop := ∀ {w : World} {c : FP}, A.holds w c → ∀ k, c.all k → ∃ o : Obj, w.heap[k]? = some o ∧ o.isCells = true
def Co (L : List HP) : Prop := ∀ A ∈ L, A.co
theorem Co.nil : Co [] := fun _ h => by cases h
theorem Co.cons {A : HP} {L : List HP} (h : A.co) (k : Co L) : Co (A :: L) := fun B hB => by
  rcases List.mem_cons.1 hB with rfl | hB
  · exact h
  · exact k B hB
theorem HP.blk_co (b : Nat) (cs : Array Value) (T : TypeId) : (HP.blk b cs T).co := by
  rintro w c ⟨h, rfl⟩ k hk
  rcases hk with rfl | hk
  · exact ⟨_, h, rfl⟩
  · exact hk.elim
theorem Sl.co {w : World} {sz n : Nat} {v : Value} {xs : List Value} (h : Sl w sz v n xs) {g : Nat} (hg : sblk v = some g) : ∃ o : Obj, w.heap[g]? = some o ∧ o.isCells = true := by
  rcases h.form with ⟨rfl, _⟩ | ⟨g', o, cap, cur, T, rfl, hh, _⟩
  · cases hg
  · obtain rfl : g' = g := by simpa [sblk] using hg
    exact ⟨_, hh, rfl⟩
theorem HP.slw_co (v : Value) (sz n : Nat) (xs : List Value) : (HP.slw v sz n xs).co := by
  rintro w c ⟨h, rfl⟩ k hk
  rcases hk with hk | hk <;> exact h.co hk
theorem HP.sl_co (v : Value) (sz n : Nat) (xs : List Value) : (HP.sl v sz n xs).co := by
  rintro w c ⟨h, rfl⟩ k hk
  rcases hk with hk | hk
  · exact h.co (spare_blk hk)
  · exact h.co hk
/-- A turn of what is no cells, at or beyond the state's beginning. -/
theorem Heap.turned {w0 w w' : World} {L : List HP} (hL : Co L) (h : Heap w0 w L) {row : Option Nat} (hg : w.grownBy w' row) (hr : ∀ r, row = some r → w0.heap.size ≤ r ∧ ∃ o : Obj, w.heap[r]? = some o ∧ o.isCells = false) : Heap w0 w' L := by
  obtain ⟨hb, cs, hh, hp, hw⟩ := h
  have hco : ∀ {L : List HP} {cs : List FP}, Co L → Has w L cs → ∀ c ∈ cs, ∀ k, c.all k → ∃ o : Obj, w.heap[k]? = some o ∧ o.isCells = true := by
    intro L
    induction L with
    | nil => intro cs _ h c hc; rw [h.none] at hc; cases hc
    | cons A L ih =>
      intro cs hL h c hc k hk
      obtain ⟨c', cs', rfl, ha, hh⟩ := h.head
      rcases List.mem_cons.1 hc with rfl | hc
      · exact hL A (by simp) ha k hk
      · exact ih (fun B hB => hL B (by simp [hB])) hh c hc k hk
  refine ⟨hb.trans ⟨hg.os, hg.tape, hg.output, hg.size, fun k hk => hg.block k (Nat.lt_of_lt_of_le hk hb.size) (fun e => by have := (hr k e.symm).1; omega)⟩, cs, hh.loc fun c hc k hk => hg.block k (hh.lt c hc k hk) (fun e => ?_), hp, hw⟩
  obtain ⟨o, h1, h2⟩ := hco hL hh c hc k hk
  obtain ⟨_, o', h3, h4⟩ := hr k e.symm
  rw [h1] at h3
  injection h3 with h3
  rw [h3, h4] at h2
  cases h2
/-- So a state is an invariant of a range over a function. -/
theorem ownFrom_heap {β : Type} {w0 : World} {B : Nat} (hB : w0.heap.size ≤ B) {L : β → List HP} (hL : ∀ s, Co (L s)) : OwnFrom B (fun s W => Heap w0 W (L s)) :=
  fun s _ _ _ hs hg hr => Heap.turned (hL s) hs hg fun r e => ⟨Nat.le_trans hB (hr r e).1, (hr r e).2⟩
theorem ownFrom_ex {β γ : Type} {B : Nat} {I : γ → β → World → Prop} (h : ∀ x, OwnFrom B (I x)) : OwnFrom B (fun s W => ∃ x, I x s W) := fun s W W' row hs hg hr => by
  obtain ⟨x, hx⟩ := hs
  exact ⟨x, h x s W W' row hx hg hr⟩
theorem ownFrom_and {β : Type} {B : Nat} {p : β → Prop} {I : β → World → Prop} (h : OwnFrom B I) : OwnFrom B (fun s W => p s ∧ I s W) := fun s W W' row hs hg hr => ⟨hs.1, h s W W' row hs.2 hg hr⟩
/-- The blocks that are no cells lie as they lay, across what a state's walk did. -/
theorem KeepsOthers.grown {w w' : World} {row : Option Nat} (hg : w.grownBy w' row) (hr : ∀ r, row = some r → ∃ o : Obj, w.heap[r]? = some o ∧ o.isCells = true) : KeepsOthers w w' :=
  ⟨hg.size, fun k o hk ho => (hg.block k (lt_of_heap' hk) (fun e => by
    obtain ⟨o', h1, h2⟩ := hr k e.symm
    rw [hk] at h1
    injection h1 with h1
    rw [← h1, ho] at h2
    cases h2)).trans hk⟩
/-- All blocks of W that are no cells lie as they lay in W. -/
def HP.rest (W : World) : HP where
  holds w c := (∀ (k : Nat) (o : Obj), W.heap[k]? = some o → o.isCells = false → w.heap[k]? = some o) ∧ c = ⟨fun _ => False, fun k => ∃ o : Obj, W.heap[k]? = some o ∧ o.isCells = false⟩
  loc := by rintro w w' c ⟨h, rfl⟩ hk; exact ⟨fun k o h1 h2 => (hk k (.inr ⟨o, h1, h2⟩)).trans (h k o h1 h2), rfl⟩
  lt := by
    rintro w c ⟨h, rfl⟩ k hk
    rcases hk with hk | ⟨o, h1, h2⟩
    · exact hk.elim
    · exact lt_of_heap' (h k o h1 h2)
theorem Heap.rest {w0 W : World} {L : List HP} (hL : Co L) (h : Heap w0 W L) : Heap w0 W (HP.rest W :: L) := by
  obtain ⟨hb, cs, hh, hp, hw⟩ := h
  have hco : ∀ {L : List HP} {cs : List FP}, Co L → Has W L cs → ∀ c ∈ cs, ∀ k, c.all k → ∃ o : Obj, W.heap[k]? = some o ∧ o.isCells = true := by
    intro L
    induction L with
    | nil => intro cs _ h c hc; rw [h.none] at hc; cases hc
    | cons A L ih =>
      intro cs hL h c hc k hk
      obtain ⟨c', cs', rfl, ha, hh⟩ := h.head
      rcases List.mem_cons.1 hc with rfl | hc
      · exact hL A (by simp) ha k hk
      · exact ih (fun B hB => hL B (by simp [hB])) hh c hc k hk
  refine ⟨hb, _, .cons ⟨fun k o h1 _ => h1, rfl⟩ hh, List.pairwise_cons.2 ⟨fun d hd => ⟨fun x hx _ => hx.elim, fun x hx hy => ?_⟩, hp⟩, fun c hc x hx => ?_⟩
  · have hx1 : d.all x := .inl (by first | exact hx | exact hy)
    have hx2 : ∃ o : Obj, W.heap[x]? = some o ∧ o.isCells = false := by
      rcases (by first | exact hx | exact hy : (⟨fun _ => False, fun k => ∃ o : Obj, W.heap[k]? = some o ∧ o.isCells = false⟩ : FP).all x) with h | h
      · exact h.elim
      · exact h
    obtain ⟨o, h1, h2⟩ := hx2
    obtain ⟨o', h3, h4⟩ := hco hL hh d hd x hx1
    rw [h1] at h3
    injection h3 with h3
    rw [← h3, h2] at h4
    cases h4
  · rcases List.mem_cons.1 hc with rfl | hc
    · exact hx.elim
    · exact hw c hc x hx
theorem Heap.keeps {w0 W w : World} {L : List HP} (hs : W.heap.size ≤ w.heap.size) (h : Heap w0 w (HP.rest W :: L)) : KeepsOthers W w := by
  obtain ⟨c, hc⟩ := h.get
  exact ⟨hs, hc.1⟩
end Go.Proofs.YtblbgalpkodibaaDoor
namespace Go.Proofs.YtblbgalpkodibaaDoor
open Go.RowKit

/-- Another order of the first ones. -/
theorem sort_perm {α : Type} {L1 L2 : List α} {σ : List Nat} {n : Nat} (hn : L1.length = n) (hσ : L2.map some = σ.map (L1[·]?)) (hp : σ.Perm (List.range n)) : L1.Perm L2 := by
  subst hn
  have e1 : L1.map some = (List.range L1.length).map (L1[·]?) := by
    apply List.ext_getElem?
    intro i
    rw [List.getElem?_map, List.getElem?_map]
    by_cases h : i < L1.length
    · rw [List.getElem?_range h]; simp [h]
    · rw [List.getElem?_eq_none (by omega), List.getElem?_eq_none (by simp; omega)]; rfl
  have e2 : ∀ l : List α, (l.map some).filterMap id = l := fun l => by
    induction l with
    | nil => rfl
    | cons a l ih => simp
  have h1 := (hp.map (L1[·]?)).filterMap id
  rw [← e1, ← hσ, e2, e2] at h1
  exact h1.symm
theorem Heap.sort {w0 w : World} {L1 L2 M : List HP} (h : Heap w0 w (L1 ++ M)) (σ : List Nat) (hn : L1.length = σ.length) (hσ : L2.map some = σ.map (L1[·]?)) (hp : σ.Perm (List.range σ.length)) : Heap w0 w (L2 ++ M) := h.perm ((sort_perm hn hσ hp).append_right M)

/-- Each block is cells, or lies below B. -/
def HP.coB (B : Nat) (A : HP) : Prop := ∀ {w : World} {c : FP}, A.holds w c → ∀ k, c.all k → (∃ o : Obj, w.heap[k]? = some o ∧ o.isCells = true) ∨ k < B
def CoB (B : Nat) (L : List HP) : Prop := ∀ A ∈ L, A.coB B
theorem co_b {A : HP} (h : A.co) (B : Nat) : A.coB B := fun ha k hk => .inl (h ha k hk)
theorem CoB.nil {B : Nat} : CoB B [] := fun _ h => by cases h
theorem CoB.cons {B : Nat} {A : HP} {L : List HP} (h : A.coB B) (k : CoB B L) : CoB B (A :: L) := fun C hC => by
  rcases List.mem_cons.1 hC with rfl | hC
  · exact h
  · exact k C hC
theorem CoB.mono {B B' : Nat} {L : List HP} (h : CoB B L) (hb : B ≤ B') : CoB B' L := fun A hA _ _ ha k hk => (h A hA ha k hk).imp id (fun x => Nat.lt_of_lt_of_le x hb)
theorem CoB.blk {B b : Nat} {cs : Array Value} {T : TypeId} {L : List HP} (k : CoB B L) : CoB B (HP.blk b cs T :: L) := .cons (co_b (HP.blk_co _ _ _) B) k
theorem CoB.slw {B n sz : Nat} {v : Value} {xs : List Value} {L : List HP} (k : CoB B L) : CoB B (HP.slw v sz n xs :: L) := .cons (co_b (HP.slw_co _ _ _ _) B) k
theorem CoB.has {B : Nat} {w : World} : ∀ {L : List HP} {cs : List FP}, CoB B L → Has w L cs → ∀ c ∈ cs, ∀ k, c.all k → (∃ o : Obj, w.heap[k]? = some o ∧ o.isCells = true) ∨ k < B := by
  intro L
  induction L with
  | nil => intro cs _ h c hc; rw [h.none] at hc; cases hc
  | cons A L ih =>
    intro cs hL h c hc k hk
    obtain ⟨c', cs', rfl, ha, hh⟩ := h.head
    rcases List.mem_cons.1 hc with rfl | hc
    · exact hL A (by simp) ha k hk
    · exact ih (fun C hC => hL C (by simp [hC])) hh c hc k hk
theorem Heap.turnedB {w0 w w' : World} {B : Nat} {L : List HP} (hL : CoB B L) (hB : w0.heap.size ≤ B) (h : Heap w0 w L) {row : Option Nat} (hg : w.grownBy w' row) (hr : ∀ r, row = some r → B ≤ r ∧ ∃ o : Obj, w.heap[r]? = some o ∧ o.isCells = false) : Heap w0 w' L := by
  obtain ⟨hb, cs, hh, hp, hw⟩ := h
  refine ⟨hb.trans ⟨hg.os, hg.tape, hg.output, hg.size, fun k hk => hg.block k (Nat.lt_of_lt_of_le hk hb.size) (fun e => by have := (hr k e.symm).1; omega)⟩, cs, hh.loc fun c hc k hk => hg.block k (hh.lt c hc k hk) (fun e => ?_), hp, hw⟩
  obtain ⟨h1, o', h3, h4⟩ := hr k e.symm
  rcases hL.has hh c hc k hk with ⟨o, h2, h5⟩ | h2
  · rw [h2] at h3
    injection h3 with h3
    rw [h3, h4] at h5
    cases h5
  · omega
theorem ownFrom_heapB {β : Type} {w0 : World} {B : Nat} (hB : w0.heap.size ≤ B) {L : β → List HP} (hL : ∀ s, CoB B (L s)) : OwnFrom B (fun s W => Heap w0 W (L s)) :=
  fun s _ _ _ hs hg hr => Heap.turnedB (hL s) hB hs hg hr
theorem ownFrom_const {β : Type} {B : Nat} {p : β → Prop} : OwnFrom B (fun s (_ : World) => p s) := fun _ _ _ _ hs _ _ => hs
/-- What is no cells and lies at or beyond B lies as it lay in W. -/
def HP.restB (B : Nat) (W : World) : HP where
  holds w c := (∀ (k : Nat) (o : Obj), B ≤ k → W.heap[k]? = some o → o.isCells = false → w.heap[k]? = some o) ∧ c = ⟨fun _ => False, fun k => B ≤ k ∧ ∃ o : Obj, W.heap[k]? = some o ∧ o.isCells = false⟩
  loc := by rintro w w' c ⟨h, rfl⟩ hk; exact ⟨fun k o h0 h1 h2 => (hk k (.inr ⟨h0, o, h1, h2⟩)).trans (h k o h0 h1 h2), rfl⟩
  lt := by
    rintro w c ⟨h, rfl⟩ k hk
    rcases hk with hk | ⟨h0, o, h1, h2⟩
    · exact hk.elim
    · exact lt_of_heap' (h k o h0 h1 h2)
theorem Heap.restB {w0 W : World} {B : Nat} {L : List HP} (hL : CoB B L) (h : Heap w0 W L) : Heap w0 W (HP.restB B W :: L) := by
  obtain ⟨hb, cs, hh, hp, hw⟩ := h
  refine ⟨hb, ⟨fun _ => False, fun k => B ≤ k ∧ ∃ o : Obj, W.heap[k]? = some o ∧ o.isCells = false⟩ :: cs, .cons ⟨fun k o _ h1 _ => h1, rfl⟩ hh, List.pairwise_cons.2 ⟨fun d hd => ⟨fun x hx _ => hx.elim, fun x hx hy => ?_⟩, hp⟩, fun c hc x hx => ?_⟩
  · rcases hy with hy | ⟨h0, o, h1, h2⟩
    · exact hy.elim
    · rcases hL.has hh d hd x (.inl hx) with ⟨o', h3, h4⟩ | h3
      · rw [h1] at h3
        injection h3 with h3
        rw [← h3, h2] at h4
        cases h4
      · omega
  · rcases List.mem_cons.1 hc with rfl | hc
    · exact hx.elim
    · exact hw c hc x hx
theorem Heap.keepsB {w0 W w : World} {B : Nat} {L : List HP} (hs : W.heap.size ≤ w.heap.size) (h : Heap w0 w (HP.restB B W :: L)) : KeepsFrom B W w := by
  obtain ⟨c, hc⟩ := h.get
  exact ⟨hs, fun k o hk h1 h2 => hc.1 k o hk h1 h2⟩
/-- An object of one's own that is no cells. -/
def HP.obj (k : Nat) (o : Obj) : HP where
  holds w c := w.heap[k]? = some o ∧ c = ⟨fun x => x = k, fun _ => False⟩
  loc := by rintro w w' c ⟨h, rfl⟩ hk; exact ⟨(hk k (.inl rfl)).trans h, rfl⟩
  lt := by
    rintro w c ⟨h, rfl⟩ k' hk
    rcases hk with rfl | hk
    · exact lt_of_heap' h
    · exact hk.elim
theorem Heap.obj {w0 w : World} {k : Nat} {o : Obj} {L : List HP} (h : Heap w0 w (HP.obj k o :: L)) : w.heap[k]? = some o := h.get.choose_spec.1
theorem Heap.addObj {w0 W : World} {B D : Nat} {o : Obj} {L : List HP} (hL : CoB B L) (h : Heap w0 W L) (hk : W.heap[D]? = some o) (ho : o.isCells = false) (hB : w0.heap.size ≤ B) (hD : B ≤ D) : Heap w0 W (HP.obj D o :: L) := by
  obtain ⟨hb, cs, hh, hp, hw⟩ := h
  have key : ∀ d ∈ cs, ∀ x, d.all x → x ≠ D := fun d hd x hx e => by
    subst e
    rcases hL.has hh d hd x hx with ⟨o', h3, h4⟩ | h3
    · rw [hk] at h3
      injection h3 with h3
      rw [← h3, ho] at h4
      cases h4
    · omega
  refine ⟨hb, ⟨fun x => x = D, fun _ => False⟩ :: cs, .cons ⟨hk, rfl⟩ hh, List.pairwise_cons.2 ⟨fun d hd => ⟨fun x hx hy => key d hd x hy hx, fun x hx hy => ?_⟩, hp⟩, fun c hc x hx => ?_⟩
  · rcases hy with hy | hy
    · exact key d hd x (.inl hx) hy
    · exact hy.elim
  · rcases List.mem_cons.1 hc with rfl | hc
    · have e : x = D := hx
      omega
    · exact hw c hc x hx
theorem Heap.putObj {w0 w : World} {k : Nat} {o : Obj} {L : List HP} (h : Heap w0 w (HP.obj k o :: L)) (o' : Obj) : Heap w0 (w.putObj k o') (HP.obj k o' :: L) :=
  h.step fun c ⟨h1, e⟩ => ⟨c, ⟨World.putObj_heap_same (lt_of_heap' h1), e⟩, .of_grown (grownBy_putObj' w k o') (fun x hx => by subst e; injection hx with hx; exact hx.symm) (fun _ h => .inl h) (fun _ h => .inl h)⟩
/-- Several as one. -/
def HP.all : List HP → HP
  | [] => HP.emp
  | A :: L => A.star (HP.all L)
theorem Heap.allF {w0 w : World} : ∀ {L Y : List HP}, Heap w0 w (HP.all L :: Y) ↔ Heap w0 w (L ++ Y)
  | [], _ => Heap.emp
  | A :: L, Y => by
    show Heap w0 w (A.star (HP.all L) :: Y) ↔ _
    rw [Heap.star]
    constructor
    · intro h
      exact (Heap.allF.1 h.f2).perm (List.perm_middle)
    · intro h
      exact (Heap.allF.2 (h.perm (List.perm_middle (a := A) (l₁ := L) (l₂ := Y)).symm)).f2
def HP.pinAt (A : HP) (c : FP) : HP := ⟨fun w d => A.holds w d ∧ d = c, fun ⟨h, e⟩ hk => ⟨A.loc h hk, e⟩, fun ⟨h, _⟩ k hk => A.lt h k hk⟩
/-- A rest of the list, held to the blocks that it has. -/
theorem Heap.pinL {w0 w : World} {Y L : List HP} (h : Heap w0 w (Y ++ L)) : ∃ P : HP, P.coB w.heap.size ∧ Heap w0 w (Y ++ [P]) ∧ ∀ {w' : World} {Z : List HP}, Heap w0 w' (Z ++ [P]) → Heap w0 w' (Z ++ L) := by
  have h1 : Heap w0 w (HP.all L :: Y) := Heap.allF.2 (h.perm List.perm_append_comm)
  obtain ⟨hb, cs, hh, hp, hw⟩ := h1
  obtain ⟨c, cs, rfl, ha, hh⟩ := hh.head
  have h2 : Heap w0 w (HP.pinAt (HP.all L) c :: Y) := ⟨hb, c :: cs, .cons ⟨ha, rfl⟩ hh, hp, hw⟩
  refine ⟨HP.pinAt (HP.all L) c, fun {w1 d} ⟨_, e⟩ k hk => .inr ?_, h2.perm (List.perm_append_comm (l₁ := [_])), fun {w' Z} h3 => ?_⟩
  · subst e
    exact HP.lt _ ha k hk
  · have h4 : Heap w0 w' (HP.pinAt (HP.all L) c :: Z) := h3.perm (List.perm_append_comm (l₂ := [_]))
    have h5 : Heap w0 w' (HP.all L :: Z) := h4.imp fun d ⟨h, _⟩ => h
    exact (Heap.allF.1 h5).perm List.perm_append_comm
theorem size_setCell (w : World) (p : Addr) (v : Value) : (w.setCell p v).heap.size = w.heap.size := by simp [World.setCell]
theorem size_setCells : ∀ (vs : List Value) (w : World) (b o : Nat), (w.setCells b o vs).heap.size = w.heap.size
  | [], _, _, _ => rfl
  | v :: r, w, b, o => by
    show ((w.setCell ⟨b, o, none⟩ v).setCells b (o + 1) r).heap.size = _
    rw [size_setCells r, size_setCell]
end Go.Proofs.YtblbgalpkodibaaDoor
