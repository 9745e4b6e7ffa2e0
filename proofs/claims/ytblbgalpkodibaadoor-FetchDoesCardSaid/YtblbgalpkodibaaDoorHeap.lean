/- A heap as a list of assertions, each with the blocks that it owns and those that it reads. No program. -/
import Derived.Test.YtblbgalpkodibaaDoorSlices
import Derived.Deep.MidRow
namespace Go.Proofs.YtblbgalpkodibaaDoor
open Go.RowKit

structure FP where
  own : Nat → Prop
  rd : Nat → Prop
def FP.all (A : FP) (x : Nat) : Prop := A.own x ∨ A.rd x
def FP.add (A B : FP) : FP := ⟨fun x => A.own x ∨ B.own x, fun x => A.rd x ∨ B.rd x⟩
structure Apart (A B : FP) : Prop where
  one : ∀ x, A.own x → ¬ B.all x
  two : ∀ x, B.own x → ¬ A.all x
theorem Apart.symm {A B : FP} (h : Apart A B) : Apart B A := ⟨h.two, h.one⟩
theorem FP.all_add {A B : FP} {x : Nat} : (A.add B).all x ↔ A.all x ∨ B.all x := by
  unfold FP.all FP.add; constructor
  · rintro ((h | h) | (h | h)) <;> simp [h]
  · rintro ((h | h) | (h | h)) <;> simp [h]

/-- An assertion: it speaks of its own blocks alone. -/
structure HP where
  holds : World → FP → Prop
  loc : ∀ {w w' : World} {c : FP}, holds w c → (∀ k, c.all k → w'.heap[k]? = w.heap[k]?) → holds w' c
  lt : ∀ {w : World} {c : FP}, holds w c → ∀ k, c.all k → k < w.heap.size

/-- From w to w': what had the blocks c has c' now; nothing else has turned. -/
structure Move (w w' : World) (c c' : FP) : Prop where
  os : w'.os = w.os
  tape : w'.tape = w.tape
  output : w'.output = w.output
  size : w.heap.size ≤ w'.heap.size
  block : ∀ k, k < w.heap.size → ¬ c.own k → w'.heap[k]? = w.heap[k]?
  own : ∀ x, c'.own x → c.own x ∨ w.heap.size ≤ x
  all : ∀ x, c'.all x → c.all x ∨ w.heap.size ≤ x

def Has (w : World) : List HP → List FP → Prop
  | [], [] => True
  | A :: L, c :: cs => A.holds w c ∧ Has w L cs
  | _, _ => False
theorem Has.nil {w : World} : Has w [] [] := trivial
theorem Has.cons {w : World} {A : HP} {L : List HP} {c : FP} {cs : List FP} (h : A.holds w c) (k : Has w L cs) : Has w (A :: L) (c :: cs) := ⟨h, k⟩

/-- The state of a walk: below the first size nothing has turned; the assertions hold, each of blocks of its own. -/
structure Heap (w0 w : World) (L : List HP) : Prop where
  below : Below w0.heap.size w0 w
  ex : ∃ cs, Has w L cs ∧ cs.Pairwise Apart ∧ ∀ c ∈ cs, ∀ x, c.own x → w0.heap.size ≤ x

section
variable {w0 w w' : World} {A A' B C D E : HP} {L L' : List HP}

theorem lt_of_heap' {w : World} {b : Nat} {o : Obj} (h : w.heap[b]? = some o) : b < w.heap.size := (Array.getElem?_eq_some_iff.1 h).1
theorem Has.head {cs : List FP} (h : Has w (A :: L) cs) : ∃ c cs', cs = c :: cs' ∧ A.holds w c ∧ Has w L cs' := by
  cases cs with
  | nil => exact h.elim
  | cons c cs => exact ⟨_, _, rfl, h.1, h.2⟩
theorem Has.none {cs : List FP} (h : Has w [] cs) : cs = [] := by
  cases cs with
  | nil => rfl
  | cons c cs => exact h.elim
theorem Has.lt : ∀ {L : List HP} {cs : List FP}, Has w L cs → ∀ c ∈ cs, ∀ x, c.all x → x < w.heap.size := by
  intro L
  induction L with
  | nil => intro cs h c hc; rw [h.none] at hc; cases hc
  | cons A L ih =>
    intro cs h c hc x hx
    obtain ⟨c', cs', rfl, ha, hh⟩ := h.head
    rcases List.mem_cons.1 hc with rfl | hc
    · exact HP.lt _ ha x hx
    · exact ih hh c hc x hx
theorem Has.loc : ∀ {L : List HP} {cs : List FP}, Has w L cs → (∀ c ∈ cs, ∀ k, c.all k → w'.heap[k]? = w.heap[k]?) → Has w' L cs := by
  intro L
  induction L with
  | nil => intro cs h _; rw [h.none]; trivial
  | cons A L ih =>
    intro cs h hk
    obtain ⟨c', cs', rfl, ha, hh⟩ := h.head
    exact ⟨HP.loc _ ha (hk _ (by simp)), ih hh fun c hc => hk c (by simp [hc])⟩

/-- The head turns; all others stay. -/
theorem Heap.step (h : Heap w0 w (A :: L)) (s : ∀ c, A.holds w c → ∃ c', A'.holds w' c' ∧ Move w w' c c') : Heap w0 w' (A' :: L) := by
  obtain ⟨hb, cs, hh, hp, hw⟩ := h
  obtain ⟨c, cs, rfl, ha, hh⟩ := hh.head
  obtain ⟨c', ha', m⟩ := s c ha
  obtain ⟨hp1, hp2⟩ := List.pairwise_cons.1 hp
  have hlt := hh.lt
  refine ⟨hb.trans ⟨m.os, m.tape, m.output, m.size, fun k hk => m.block k (Nat.lt_of_lt_of_le hk hb.size) (fun ho => by have := hw c (by simp) k ho; omega)⟩, c' :: cs, .cons ha' (hh.loc fun d hd k hk => m.block k (hlt d hd k hk) (fun ho => (hp1 d hd).one k ho hk)), List.pairwise_cons.2 ⟨fun d hd => ⟨fun x hx hx' => ?_, fun x hx hx' => ?_⟩, hp2⟩, fun d hd x hx => ?_⟩
  · rcases m.own x hx with h1 | h1
    · exact (hp1 d hd).one x h1 hx'
    · have := hlt d hd x hx'; omega
  · rcases m.all x hx' with h1 | h1
    · exact (hp1 d hd).two x hx h1
    · have := hlt d hd x (.inl hx); omega
  · rcases List.mem_cons.1 hd with rfl | hd
    · rcases m.own x hx with h1 | h1
      · exact hw c (by simp) x h1
      · exact Nat.le_trans hb.size h1
    · exact hw d (by simp [hd]) x hx
/-- The head's blocks, once for all that may become of them. -/
theorem Heap.pin (h : Heap w0 w (A :: L)) : ∃ c, A.holds w c ∧ ∀ {w' : World} {A' : HP} {c' : FP}, A'.holds w' c' → Move w w' c c' → Heap w0 w' (A' :: L) := by
  obtain ⟨hb, cs, hh', hp, hw⟩ := h
  obtain ⟨c, cs, rfl, ha, hh⟩ := hh'.head
  refine ⟨c, ha, fun {w' A' c'} ha' m => ?_⟩
  have h1 : Heap w0 w (⟨fun w d => A.holds w d ∧ d = c, fun {_ _ _} ⟨h, e⟩ hk => ⟨A.loc h hk, e⟩, fun {_ _} ⟨h, _⟩ k hk => A.lt h k hk⟩ :: L) := ⟨hb, _, .cons ⟨ha, rfl⟩ hh, hp, hw⟩
  exact h1.step fun d ⟨_, e⟩ => ⟨c', ha', e ▸ m⟩
theorem Move.self (w : World) (c : FP) : Move w w c c := ⟨rfl, rfl, rfl, Nat.le_refl _, fun _ _ _ => rfl, fun _ h => .inl h, fun _ h => .inl h⟩
theorem Heap.imp (h : Heap w0 w (A :: L)) (s : ∀ c, A.holds w c → A'.holds w c) : Heap w0 w (A' :: L) := h.step fun c hc => ⟨c, s c hc, Move.self w c⟩

/-- Nothing that is held turns. -/
theorem Heap.grown (h : Heap w0 w L) (hg : w.grownBy w' none) : Heap w0 w' L := by
  obtain ⟨hb, cs, hh, hp, hw⟩ := h
  refine ⟨hb.trans ⟨hg.os, hg.tape, hg.output, hg.size, fun k hk => hg.block k (Nat.lt_of_lt_of_le hk hb.size) (by simp)⟩, cs, hh.loc fun c hc k hk => hg.block k (hh.lt c hc k hk) (by simp), hp, hw⟩
theorem Heap.drew (h : Heap w0 w L) : Heap w0 w.drew L := h.grown ⟨rfl, rfl, rfl, Nat.le_refl _, fun _ _ _ => rfl⟩
theorem Heap.drewN (h : Heap w0 w L) (n : Nat) : Heap w0 (w.drewN n) L := h.grown ⟨rfl, rfl, rfl, Nat.le_refl _, fun _ _ _ => rfl⟩
theorem Heap.alloc (h : Heap w0 w L) (o : Obj) : Heap w0 (w.alloc o) L := h.grown ⟨rfl, rfl, rfl, by simp, fun k hk _ => Below.heap_alloc w o k hk⟩
theorem Heap.nil (w : World) : Heap w w [] := ⟨Below.refl _ _, [], .nil, .nil, by simp⟩
theorem Heap.of_grown (h : w0.grownBy w none) : Heap w0 w [] := (Heap.nil w0).grown h
theorem Heap.tail (h : Heap w0 w (A :: L)) : Heap w0 w L := by
  obtain ⟨hb, cs, hh, hp, hw⟩ := h
  obtain ⟨c, cs, rfl, ha, hh⟩ := hh.head
  exact ⟨hb, cs, hh, (List.pairwise_cons.1 hp).2, fun d hd => hw d (by simp [hd])⟩

/-! ### one, both, some -/
def HP.emp : HP := ⟨fun _ c => c = ⟨fun _ => False, fun _ => False⟩, fun h _ => h, fun h k hk => by subst h; exact (hk.elim id id).elim⟩
def HP.star (A B : HP) : HP where
  holds w c := ∃ c1 c2, A.holds w c1 ∧ B.holds w c2 ∧ Apart c1 c2 ∧ c = c1.add c2
  loc := by
    rintro w w' c ⟨c1, c2, h1, h2, ha, rfl⟩ hk
    exact ⟨c1, c2, A.loc h1 fun k h => hk k (FP.all_add.2 (.inl h)), B.loc h2 fun k h => hk k (FP.all_add.2 (.inr h)), ha, rfl⟩
  lt := by
    rintro w c ⟨c1, c2, h1, h2, ha, rfl⟩ k hk
    rcases FP.all_add.1 hk with h | h
    · exact A.lt h1 k h
    · exact B.lt h2 k h
def HP.any {α : Sort _} (F : α → HP) : HP where
  holds w c := ∃ x, (F x).holds w c
  loc := by rintro w w' c ⟨x, h⟩ hk; exact ⟨x, (F x).loc h hk⟩
  lt := by rintro w c ⟨x, h⟩; exact (F x).lt h
def HP.und (p : Prop) (A : HP) : HP where
  holds w c := p ∧ A.holds w c
  loc := by rintro w w' c ⟨x, h⟩ hk; exact ⟨x, A.loc h hk⟩
  lt := by rintro w c ⟨x, h⟩; exact A.lt h

theorem Heap.star : Heap w0 w (A.star B :: L) ↔ Heap w0 w (A :: B :: L) := by
  constructor
  · rintro ⟨hb, cs, hh', hp, hw⟩
    obtain ⟨c, cs, rfl, ⟨c1, c2, h1, h2, ha, rfl⟩, hh⟩ := hh'.head
    obtain ⟨hp1, hp2⟩ := List.pairwise_cons.1 hp
    refine ⟨hb, c1 :: c2 :: cs, .cons h1 (.cons h2 hh), List.pairwise_cons.2 ⟨fun d hd => ?_, List.pairwise_cons.2 ⟨fun d hd => ?_, hp2⟩⟩, fun d hd x hx => ?_⟩
    · rcases List.mem_cons.1 hd with rfl | hd
      · exact ha
      · exact ⟨fun x hx => (hp1 d hd).one x (.inl hx), fun x hx h' => (hp1 d hd).two x hx (FP.all_add.2 (.inl h'))⟩
    · exact ⟨fun x hx => (hp1 d hd).one x (.inr hx), fun x hx h' => (hp1 d hd).two x hx (FP.all_add.2 (.inr h'))⟩
    · rcases List.mem_cons.1 hd with rfl | hd
      · exact hw (FP.add d c2) (List.mem_cons_self ..) x (Or.inl hx)
      · rcases List.mem_cons.1 hd with rfl | hd
        · exact hw (FP.add c1 d) (List.mem_cons_self ..) x (Or.inr hx)
        · exact hw d (by simp [hd]) x hx
  · rintro ⟨hb, cs, hh, hp, hw⟩
    obtain ⟨c1, cs, rfl, h1, hh⟩ := hh.head
    obtain ⟨c2, cs, rfl, h2, hh⟩ := hh.head
    obtain ⟨hp1, hp2⟩ := List.pairwise_cons.1 hp
    obtain ⟨hp3, hp4⟩ := List.pairwise_cons.1 hp2
    refine ⟨hb, c1.add c2 :: cs, .cons ⟨c1, c2, h1, h2, hp1 c2 (by simp), rfl⟩ hh, List.pairwise_cons.2 ⟨fun d hd => ⟨fun x hx h' => ?_, fun x hx h' => ?_⟩, hp4⟩, fun d hd x hx => ?_⟩
    · rcases hx with hx | hx
      · exact (hp1 d (by simp [hd])).one x hx h'
      · exact (hp3 d hd).one x hx h'
    · rcases FP.all_add.1 h' with h' | h'
      · exact (hp1 d (by simp [hd])).two x hx h'
      · exact (hp3 d hd).two x hx h'
    · rcases List.mem_cons.1 hd with rfl | hd
      · rcases hx with hx | hx
        · exact hw c1 (by simp) x hx
        · exact hw c2 (by simp) x hx
      · exact hw d (by simp [hd]) x hx
theorem Heap.any {α : Sort _} {F : α → HP} : Heap w0 w (HP.any F :: L) ↔ ∃ x, Heap w0 w (F x :: L) := by
  constructor
  · rintro ⟨hb, cs, hh, hp, hw⟩
    obtain ⟨c, cs, rfl, ⟨x, h1⟩, hh⟩ := hh.head
    exact ⟨x, hb, _, .cons h1 hh, hp, hw⟩
  · rintro ⟨x, h⟩
    exact h.imp fun c hc => ⟨x, hc⟩
theorem Heap.und {p : Prop} : Heap w0 w (HP.und p A :: L) ↔ p ∧ Heap w0 w (A :: L) := by
  constructor
  · rintro ⟨hb, cs, hh, hp, hw⟩
    obtain ⟨c, cs, rfl, ⟨x, h1⟩, hh⟩ := hh.head
    exact ⟨x, hb, _, .cons h1 hh, hp, hw⟩
  · rintro ⟨x, h⟩
    exact h.imp fun c hc => ⟨x, hc⟩
theorem Heap.emp : Heap w0 w (HP.emp :: L) ↔ Heap w0 w L := by
  refine ⟨fun h => h.tail, fun ⟨hb, cs, hh, hp, hw⟩ => ⟨hb, ⟨fun _ => False, fun _ => False⟩ :: cs, .cons rfl hh, List.pairwise_cons.2 ⟨fun d hd => ⟨fun _ h => h.elim, fun _ _ h => (h.elim id id).elim⟩, hp⟩, fun c hc => ?_⟩⟩
  rcases List.mem_cons.1 hc with rfl | hc
  · intro x hx; exact hx.elim
  · exact hw c hc

/-! ### another order -/
theorem Has.perm {L L' : List HP} (p : L.Perm L') : ∀ {cs : List FP}, Has w L cs → ∃ cs', Has w L' cs' ∧ cs.Perm cs' := by
  induction p with
  | nil => intro cs h; exact ⟨cs, h, .refl _⟩
  | cons x _ ih =>
    intro cs h
    obtain ⟨c, cs, rfl, ha, hh⟩ := h.head
    obtain ⟨cs', h', p'⟩ := ih hh
    exact ⟨c :: cs', .cons ha h', p'.cons c⟩
  | swap x y l =>
    intro cs h
    obtain ⟨c, cs, rfl, ha, hh⟩ := h.head
    obtain ⟨c2, cs, rfl, ha2, hh⟩ := hh.head
    exact ⟨c2 :: c :: cs, .cons ha2 (.cons ha hh), .swap _ _ _⟩
  | trans _ _ ih1 ih2 =>
    intro cs h
    obtain ⟨cs', h', p'⟩ := ih1 h
    obtain ⟨cs'', h'', p''⟩ := ih2 h'
    exact ⟨cs'', h'', p'.trans p''⟩
theorem Heap.perm (h : Heap w0 w L) (p : L.Perm L') : Heap w0 w L' := by
  obtain ⟨hb, cs, hh, hp, hw⟩ := h
  obtain ⟨cs', h', p'⟩ := hh.perm p
  exact ⟨hb, cs', h', (p'.pairwise_iff (fun h => Apart.symm h)).1 hp, fun c hc => hw c (p'.mem_iff.2 hc)⟩
/-- The second, third, fourth, fifth comes to the front. -/
theorem Heap.f2 (h : Heap w0 w (A :: B :: L)) : Heap w0 w (B :: A :: L) := h.perm (.swap _ _ _)
theorem Heap.f3 (h : Heap w0 w (A :: B :: C :: L)) : Heap w0 w (C :: A :: B :: L) := h.perm ((List.Perm.swap _ _ _).cons A |>.trans (.swap _ _ _))
theorem Heap.f4 (h : Heap w0 w (A :: B :: C :: D :: L)) : Heap w0 w (D :: A :: B :: C :: L) := h.perm (((List.Perm.swap _ _ _).cons B |>.trans (.swap _ _ _)).cons A |>.trans (.swap _ _ _))
theorem Heap.f5 (h : Heap w0 w (A :: B :: C :: D :: E :: L)) : Heap w0 w (E :: A :: B :: C :: D :: L) := h.perm ((((List.Perm.swap _ _ _).cons C |>.trans (.swap _ _ _)).cons B |>.trans (.swap _ _ _)).cons A |>.trans (.swap _ _ _))
/-- The first goes behind the second, the third, the fourth, the fifth. -/
theorem Heap.b3 (h : Heap w0 w (A :: B :: C :: L)) : Heap w0 w (B :: C :: A :: L) := h.f3.f3
theorem Heap.b4 (h : Heap w0 w (A :: B :: C :: D :: L)) : Heap w0 w (B :: C :: D :: A :: L) := h.f4.f4.f4
/-- Under the first one. -/
theorem Heap.under (h : Heap w0 w (A :: L)) (k : ∀ {w0 w M}, Heap w0 w (L ++ M) → Heap w0 w (L' ++ M)) : Heap w0 w (A :: L') := by
  have h1 : Heap w0 w (L ++ [A]) := h.perm (List.perm_append_comm (l₁ := [A]) (l₂ := L))
  exact (k h1).perm (List.perm_append_comm (l₁ := L') (l₂ := [A]))
/-- The last one to the front. -/
theorem Heap.last (h : Heap w0 w (L ++ [A])) : Heap w0 w (A :: L) := h.perm (List.perm_append_comm (l₁ := L) (l₂ := [A]))

/-! ### a block of cells -/
def HP.blk (b : Nat) (cs : Array Value) (T : TypeId) : HP where
  holds w c := w.heap[b]? = .some (.cells cs T (0, 0)) ∧ c = ⟨fun x => x = b, fun _ => False⟩
  loc := by rintro w w' c ⟨h, rfl⟩ hk; exact ⟨(hk b (.inl rfl)).trans h, rfl⟩
  lt := by
    rintro w c ⟨h, rfl⟩ k hk
    rcases hk with rfl | hk
    · exact lt_of_heap' h
    · exact hk.elim
/-- A slice that is read; into the room behind it may be written. -/
def HP.sl (v : Value) (sz n : Nat) (xs : List Value) : HP where
  holds w c := Sl w sz v n xs ∧ c = ⟨fun x => spare v = .some x, fun x => sblk v = .some x⟩
  loc := by rintro w w' c ⟨h, rfl⟩ hk; exact ⟨h.of_block fun g hg => hk g (.inr hg), rfl⟩
  lt := by
    rintro w c ⟨h, rfl⟩ k hk
    rcases hk with hk | hk
    · exact h.blk_lt (spare_blk hk)
    · exact h.blk_lt hk
/-- A slice whose elements are written. -/
def HP.slw (v : Value) (sz n : Nat) (xs : List Value) : HP where
  holds w c := Sl w sz v n xs ∧ c = ⟨fun x => sblk v = .some x, fun x => sblk v = .some x⟩
  loc := by rintro w w' c ⟨h, rfl⟩ hk; exact ⟨h.of_block fun g hg => hk g (.inr hg), rfl⟩
  lt := by
    rintro w c ⟨h, rfl⟩ k hk
    rcases hk with hk | hk <;> exact h.blk_lt hk

variable {b b' : Nat} {cs cs' : Array Value} {T T' : TypeId} {v v' u : Value} {sz n m : Nat} {xs ys : List Value}
theorem Heap.get (h : Heap w0 w (A :: L)) : ∃ c, A.holds w c := by
  obtain ⟨hb, cs, hh, hp, hw⟩ := h
  obtain ⟨c, cs, rfl, ha, hh⟩ := hh.head
  exact ⟨c, ha⟩
theorem Heap.heap (h : Heap w0 w (HP.blk b cs T :: L)) : w.heap[b]? = .some (.cells cs T (0, 0)) := by
  obtain ⟨c, hc⟩ := h.get; exact hc.1
theorem Heap.sl (h : Heap w0 w (HP.sl v sz n xs :: L)) : Sl w sz v n xs := by
  obtain ⟨c, hc⟩ := h.get; exact hc.1
theorem Heap.slw (h : Heap w0 w (HP.slw v sz n xs :: L)) : Sl w sz v n xs := by
  obtain ⟨c, hc⟩ := h.get; exact hc.1
theorem Heap.base (h : Heap w0 w (HP.blk b cs T :: L)) : w0.heap.size ≤ b := by
  obtain ⟨hb, cs, hh, hp, hw⟩ := h
  obtain ⟨c, cs, rfl, ha, hh⟩ := hh.head
  exact hw c (by simp) b (by rw [ha.2])
theorem Heap.apart2 (h : Heap w0 w (A :: B :: L)) : ∃ c d, A.holds w c ∧ B.holds w d ∧ Apart c d := by
  obtain ⟨hb, cs, hh, hp, hw⟩ := h
  obtain ⟨c, cs, rfl, ha, hh⟩ := hh.head
  obtain ⟨d, cs, rfl, hd, hh⟩ := hh.head
  exact ⟨c, d, ha, hd, (List.pairwise_cons.1 hp).1 d (by simp)⟩
theorem Heap.ne (h : Heap w0 w (HP.blk b cs T :: HP.blk b' cs' T' :: L)) : b ≠ b' := by
  obtain ⟨c, d, ⟨_, rfl⟩, ⟨_, rfl⟩, ha⟩ := h.apart2
  exact fun e => ha.one b rfl (.inl e)
theorem Heap.ne_sl (h : Heap w0 w (HP.blk b cs T :: HP.sl v sz n xs :: L)) : sblk v ≠ .some b := by
  obtain ⟨c, d, ⟨_, rfl⟩, ⟨_, rfl⟩, ha⟩ := h.apart2
  exact fun e => ha.one b rfl (.inr e)
theorem Heap.ne_slw (h : Heap w0 w (HP.blk b cs T :: HP.slw v sz n xs :: L)) : sblk v ≠ .some b := by
  obtain ⟨c, d, ⟨_, rfl⟩, ⟨_, rfl⟩, ha⟩ := h.apart2
  exact fun e => ha.one b rfl (.inr e)

theorem heap_new' (w : World) (o : Obj) : (w.alloc o).heap[w.heap.size]? = .some o := by show (w.heap.push o)[w.heap.size]? = _; simp
theorem heap_set' {w : World} (h : w.heap[b]? = .some (.cells cs T (0, 0))) (off : Nat) (x : Value) :
    (w.setCell ⟨b, off, none⟩ x).heap[b]? = .some (.cells (cs.setIfInBounds off x) T (0, 0)) := by
  simp [World.setCell, Array.getElem?_modify, h]
theorem Move.of_grown {row : Option Nat} {c c' : FP} (hg : w.grownBy w' row) (hr : ∀ k, row = .some k → c.own k) (hown : ∀ x, c'.own x → c.own x ∨ w.heap.size ≤ x) (hall : ∀ x, c'.all x → c.all x ∨ w.heap.size ≤ x) : Move w w' c c' :=
  ⟨hg.os, hg.tape, hg.output, hg.size, fun k hk hn => hg.block k hk (fun e => hn (hr k e.symm)), hown, hall⟩
theorem grown_set' (w : World) (b off : Nat) (x : Value) : w.grownBy (w.setCell ⟨b, off, none⟩ x) (.some b) :=
  ⟨rfl, rfl, rfl, by simp [World.setCell], fun i _ hne => Below.heap_setCell w ⟨b, off, none⟩ x i (fun e => hne (by rw [e]))⟩
/-- A store. -/
theorem Heap.set (h : Heap w0 w (HP.blk b cs T :: L)) (off : Nat) (x : Value) : Heap w0 (w.setCell ⟨b, off, none⟩ x) (HP.blk b (cs.setIfInBounds off x) T :: L) :=
  h.step fun c ⟨h1, e⟩ => ⟨c, ⟨heap_set' h1 off x, e⟩, .of_grown (grown_set' w b off x) (fun k hk => by subst e; injection hk with hk; exact hk.symm) (fun _ h => .inl h) (fun _ h => .inl h)⟩
/-- A new block. -/
theorem Heap.new (h : Heap w0 w L) (cs : Array Value) (T : TypeId) : Heap w0 (w.alloc (.cells cs T)) (HP.blk w.heap.size cs T :: L) :=
  (Heap.emp.2 h).step fun c hc => ⟨_, ⟨heap_new' w _, rfl⟩, .of_grown (row := none) ⟨rfl, rfl, rfl, by simp, fun k hk _ => Below.heap_alloc w _ k hk⟩ (by simp) (fun x hx => .inr (by cases hx; exact Nat.le_refl _)) (fun x hx => .inr (by rcases hx with hx | hx; cases hx; exact Nat.le_refl _; exact hx.elim))⟩
theorem Has.app {w : World} : ∀ {As L : List HP} {ds cs : List FP}, Has w As ds → Has w L cs → Has w (As ++ L) (ds ++ cs)
  | [], _, [], _, _, k => k
  | _ :: _, _, _ :: _, _, h, k => ⟨h.1, Has.app h.2 k⟩
  | [], _, _ :: _, _, h, _ => h.elim
  | _ :: _, _, [], _, h, _ => h.elim
/-- What is new, all at once. -/
theorem Heap.make (h : Heap w0 w L) (hg : w.grownBy w' none) {As : List HP} {ds : List FP} (hh : Has w' As ds) (hp : ds.Pairwise Apart) (hf : ∀ c ∈ ds, ∀ x, c.all x → w.heap.size ≤ x) : Heap w0 w' (As ++ L) := by
  have h2 := h.grown hg
  obtain ⟨_, cs, hc, hpc, hw⟩ := h
  refine ⟨h2.below, ds ++ cs, hh.app (hc.loc fun c hcm k hk => hg.block k (hc.lt c hcm k hk) (by simp)), ?_, ?_⟩
  · rw [List.pairwise_append]
    refine ⟨hp, hpc, fun a ha b hb => ⟨fun x hx hbx => ?_, fun x hx hax => ?_⟩⟩
    · have h1 := hf a ha x (.inl hx)
      have h3 := hc.lt b hb x hbx
      omega
    · have h1 := hf a ha x hax
      have h3 := hc.lt b hb x (.inl hx)
      omega
  · intro c hcm x hx
    rcases List.mem_append.1 hcm with h1 | h1
    · have h3 := hf c h1 x (.inl hx)
      have h4 : w0.heap.size ≤ w.heap.size := by have := ‹Below w0.heap.size w0 w›; exact this.size
      omega
    · exact hw c h1 x hx
theorem apart_blk_sl {b : Nat} {v : Value} (h : sblk v ≠ .some b) : Apart ⟨fun x => x = b, fun _ => False⟩ ⟨fun x => sblk v = .some x, fun x => sblk v = .some x⟩ :=
  ⟨fun x hx hy => by subst hx; exact h (hy.elim id id), fun x hx hy => by
    rcases hy with hy | hy
    · exact h (hy ▸ hx)
    · exact hy⟩
theorem apart_sl_sl {v u : Value} (h : sblk v ≠ sblk u) : Apart ⟨fun x => sblk v = .some x, fun x => sblk v = .some x⟩ ⟨fun x => sblk u = .some x, fun x => sblk u = .some x⟩ :=
  ⟨fun _x hx hy => h (hx.trans (hy.elim id id).symm), fun _x hx hy => h ((hy.elim id id).trans hx.symm)⟩
/-- A new block and two new slices. -/
theorem Heap.fresh3 (h : Heap w0 w L) (hg : w.grownBy w' none) (hb : w'.heap[b]? = .some (.cells cs T (0, 0))) (hb0 : w.heap.size ≤ b) {sz' : Nat} (hv : Sl w' sz v n xs) (hu : Sl w' sz' u m ys) (hv0 : ∀ g, sblk v = .some g → w.heap.size ≤ g) (hu0 : ∀ g, sblk u = .some g → w.heap.size ≤ g)
    (n1 : sblk v ≠ .some b) (n2 : sblk u ≠ .some b) (n3 : sblk v ≠ sblk u) : Heap w0 w' (HP.blk b cs T :: HP.slw v sz n xs :: HP.slw u sz' m ys :: L) := by
  refine h.make (As := [HP.blk b cs T, HP.slw v sz n xs, HP.slw u sz' m ys]) (ds := [⟨fun x => x = b, fun _ => False⟩, ⟨fun x => sblk v = .some x, fun x => sblk v = .some x⟩, ⟨fun x => sblk u = .some x, fun x => sblk u = .some x⟩]) hg (.cons ⟨hb, rfl⟩ (.cons ⟨hv, rfl⟩ (.cons ⟨hu, rfl⟩ .nil))) ?_ ?_
  · refine List.pairwise_cons.2 ⟨?_, List.pairwise_cons.2 ⟨?_, List.pairwise_singleton _ _⟩⟩
    · intro c hc
      simp only [List.mem_cons, List.mem_nil_iff, or_false] at hc
      rcases hc with rfl | rfl
      · exact apart_blk_sl n1
      · exact apart_blk_sl n2
    · intro c hc
      simp only [List.mem_cons, List.mem_nil_iff, or_false] at hc
      subst hc
      exact apart_sl_sl n3
  · intro c hc x hx
    simp only [List.mem_cons, List.mem_nil_iff, or_false] at hc
    rcases hc with rfl | rfl | rfl
    · rcases hx with hx | hx
      · exact hx ▸ hb0
      · exact hx.elim
    · exact hv0 x (hx.elim id id)
    · exact hu0 x (hx.elim id id)
theorem sl_blk {w : World} {g T n sz : Nat} {xs : List Value} (h : w.heap[g]? = .some (.cells xs.toArray T (0, 0))) (hl : xs.length = n * sz) : Sl w sz (.slice (.some ⟨g, 0, .none⟩) n n) n xs :=
  ⟨hl, .inr ⟨g, 0, n, _, T, rfl, h, Nat.le_refl _, by simp [hl], by simp [← hl]⟩⟩
theorem blk_ne {w : World} {b g : Nat} {o p : Obj} (h : w.heap[b]? = .some o) (k : w.heap[g]? = .some p) (hne : o ≠ p) : g ≠ b := fun e => by subst e; rw [h] at k; injection k with k; exact hne k
theorem Heap.slice (h : Heap w0 w L) (hs : v = .slice none 0 0) : Heap w0 w (HP.sl v sz 0 [] :: L) := by
  subst hs
  exact (Heap.emp.2 h).step fun c hc => ⟨⟨fun x => False, fun x => False⟩, ⟨Sl.nil w sz, by simp [spare, sblk]⟩, .of_grown (row := none) ⟨rfl, rfl, rfl, Nat.le_refl _, fun _ _ _ => rfl⟩ (by simp) (fun x hx => hx.elim) (fun x hx => (hx.elim id id).elim)⟩
/-- append has been called. -/
theorem Heap.append (h : Heap w0 w (HP.sl v sz n xs :: L)) (hs : Sl w' sz v' m ys) (hg : w.grownBy w' (spare v)) (hb : sblk v' = sblk v ∨ sblk v' = .some w.heap.size)
    (hp : spare v' = none ∨ spare v' = spare v ∨ spare v' = .some w.heap.size) : Heap w0 w' (HP.sl v' sz m ys :: L) :=
  h.step fun c ⟨h1, e⟩ => ⟨_, ⟨hs, rfl⟩, by
    subst e
    have o1 : ∀ x, spare v' = .some x → spare v = .some x ∨ w.heap.size ≤ x := by
      intro x hx
      rcases hp with e | e | e
      · rw [e] at hx; cases hx
      · rw [e] at hx; exact .inl hx
      · rw [e] at hx; injection hx with hx; exact .inr (by omega)
    refine .of_grown hg (fun k hk => hk) o1 fun x hx => ?_
    rcases hx with hx | hx
    · rcases o1 x hx with h | h
      · exact .inl (.inl h)
      · exact .inr h
    · rcases hb with e | e
      · rw [e] at hx; exact .inl (.inr hx)
      · rw [e] at hx; injection hx with hx; exact .inr (by omega)⟩
/-- A cut of a slice has no more room, and lies where it lay. -/
theorem Heap.cut (h : Heap w0 w (HP.sl v sz n xs :: L)) (hs : Sl w sz v' m ys) (hb : sblk v' = sblk v ∨ sblk v' = none) (hp : spare v' = none ∨ spare v' = spare v) : Heap w0 w (HP.sl v' sz m ys :: L) :=
  h.step fun c ⟨h1, e⟩ => ⟨_, ⟨hs, rfl⟩, by
    subst e
    have o1 : ∀ x, spare v' = .some x → spare v = .some x := by
      intro x hx
      rcases hp with e | e
      · rw [e] at hx; cases hx
      · rw [e] at hx; exact hx
    refine .of_grown (row := none) ⟨rfl, rfl, rfl, Nat.le_refl _, fun _ _ _ => rfl⟩ (by simp) (fun x hx => .inl (o1 x hx)) fun x hx => ?_
    rcases hx with hx | hx
    · exact .inl (.inl (o1 x hx))
    · rcases hb with e | e
      · rw [e] at hx; exact .inl (.inr hx)
      · rw [e] at hx; cases hx⟩
/-- An element of a slice of one's own is written. -/
theorem Sl.write {w : World} {sz n g o cap : Nat} {xs : List Value} (h : Sl w sz (.slice (.some ⟨g, o, none⟩) n cap) n xs) {j : Nat} (hj : j < n * sz) (x : Value) : Sl (w.setCell ⟨g, o + j, none⟩ x) sz (.slice (.some ⟨g, o, none⟩) n cap) n (xs.set j x) := by
  refine ⟨by rw [List.length_set]; exact h.len, ?_⟩
  rcases h.form with ⟨hv, _⟩ | ⟨g', o', cap', cur, T, hv, hh, hc, hs, hx⟩
  · cases hv
  · injection hv with h1 h2 h3
    injection h1 with h1
    injection h1 with e1 e2
    subst e1; subst e2; subst h3
    refine .inr ⟨g, o, cap, _, T, rfl, heap_set' hh (o + j) x, hc, by simpa using hs, ?_⟩
    rw [← hx]
    apply List.ext_getElem?
    intro k
    simp only [List.getElem?_take, List.getElem?_drop, Array.toList_setIfInBounds, List.getElem?_set, List.length_take, List.length_drop, Array.length_toList]
    have e1 : n * sz ≤ cap * sz := Nat.mul_le_mul_right _ hc
    by_cases hk : k < n * sz
    · by_cases hjk : j = k
      · subst hjk
        rw [if_pos hk, if_pos rfl, if_pos rfl, if_pos (by omega), if_pos (by omega)]
      · rw [if_pos hk, if_neg (by omega), if_neg hjk, if_pos hk]
    · rw [if_neg hk, if_neg (by omega), if_neg hk]
theorem Heap.write {g o cap : Nat} (h : Heap w0 w (HP.slw (.slice (.some ⟨g, o, .none⟩) n cap) sz n xs :: L)) {j : Nat} (hj : j < n * sz) (x : Value) :
    Heap w0 (w.setCell ⟨g, o + j, .none⟩ x) (HP.slw (.slice (.some ⟨g, o, .none⟩) n cap) sz n (xs.set j x) :: L) :=
  h.step fun c ⟨h1, e⟩ => ⟨c, ⟨h1.write hj x, e⟩, .of_grown (grown_set' w g (o + j) x) (fun k hk => by subst e; exact hk) (fun _ h => .inl h) (fun _ h => .inl h)⟩
/-- append has been called on a slice of one's own. -/
theorem Heap.appendw (h : Heap w0 w (HP.slw v sz n xs :: L)) (hs : Sl w' sz v' m ys) (hg : w.grownBy w' (spare v)) (hb : sblk v' = sblk v ∨ sblk v' = .some w.heap.size) : Heap w0 w' (HP.slw v' sz m ys :: L) :=
  h.step fun c ⟨h1, e⟩ => ⟨_, ⟨hs, rfl⟩, by
    subst e
    have o1 : ∀ x, sblk v' = .some x → sblk v = .some x ∨ w.heap.size ≤ x := by
      intro x hx
      rcases hb with e | e
      · rw [e] at hx; exact .inl hx
      · rw [e] at hx; injection hx with hx; exact .inr (by omega)
    exact .of_grown hg (fun k hk => spare_blk hk) o1 (fun x hx => by rcases hx with hx | hx <;> rcases o1 x hx with h | h <;> first | exact .inl (.inl h) | exact .inr h)⟩
/-- A slice of one's own is let go on as one that is read (and appended to). -/
theorem Heap.soften (h : Heap w0 w (HP.slw v sz n xs :: L)) : Heap w0 w (HP.sl v sz n xs :: L) :=
  h.step fun c ⟨h1, e⟩ => ⟨_, ⟨h1, rfl⟩, by
    subst e
    exact .of_grown (row := .none) ⟨rfl, rfl, rfl, Nat.le_refl _, fun _ _ _ => rfl⟩ (by simp) (fun x hx => .inl (spare_blk hx)) (fun x hx => .inl (by rcases hx with hx | hx; exact .inl (spare_blk hx); exact .inl hx))⟩
/-- A slice without elements, in a block of its own. -/
theorem Heap.emptyS (h : Heap w0 w L) (T : TypeId) : Heap w0 (w.alloc (.cells #[] T)) (HP.sl (.slice (.some ⟨w.heap.size, 0, .none⟩) 0 0) sz 0 [] :: L) :=
  (Heap.emp.2 h).step fun c hc => ⟨_, ⟨⟨by simp, .inr ⟨w.heap.size, 0, 0, #[], T, rfl, heap_new' w _, Nat.le_refl _, by simp, by simp⟩⟩, rfl⟩,
    .of_grown (row := .none) ⟨rfl, rfl, rfl, by simp, fun k hk _ => Below.heap_alloc w _ k hk⟩ (by simp) (fun x hx => by simp [spare] at hx) (fun x hx => .inr (by
      rcases hx with hx | hx
      · simp [spare] at hx
      · have e : Option.some w.heap.size = .some x := hx
        injection e with e
        omega))⟩
/-! ### several cells at once -/
def setL (xs : List Value) (j : Nat) : List Value → List Value
  | [] => xs
  | v :: r => setL (xs.set j v) (j + 1) r
theorem setL_len : ∀ (vs xs : List Value) (j : Nat), (setL xs j vs).length = xs.length := by
  intro vs
  induction vs with
  | nil => intro xs j; rfl
  | cons v r ih => intro xs j; simp [setL, ih]
theorem setL_get : ∀ (vs xs : List Value) (j i : Nat), j + vs.length ≤ xs.length → (setL xs j vs)[i]? = if j ≤ i ∧ i < j + vs.length then vs[i - j]? else xs[i]? := by
  intro vs
  induction vs with
  | nil => intro xs j i _; simp [setL]; intro h1 h2; omega
  | cons v r ih =>
    intro xs j i hl
    simp only [List.length_cons] at hl
    rw [setL, ih _ _ _ (by simp; omega), List.getElem?_set]
    simp only [List.length_cons]
    by_cases h1 : j + 1 ≤ i ∧ i < j + 1 + r.length
    · rw [if_pos h1, if_pos (by omega), show i - j = (i - (j + 1)) + 1 by omega]; simp
    · rw [if_neg h1]
      by_cases h2 : j = i
      · subst h2
        rw [if_pos rfl, if_pos (by omega), if_pos (by omega)]; simp
      · rw [if_neg h2, if_neg (by omega)]
theorem Heap.setl (h : Heap w0 w (HP.blk b xs.toArray T :: L)) (off : Nat) (x : Value) : Heap w0 (w.setCell ⟨b, off, .none⟩ x) (HP.blk b (xs.set off x).toArray T :: L) := by
  have := h.set off x
  rwa [List.setIfInBounds_toArray] at this
theorem Heap.sets : ∀ (vs : List Value) {xs : List Value} {w : World} (_ : Heap w0 w (HP.blk b xs.toArray T :: L)) (off : Nat), Heap w0 (w.setCells b off vs) (HP.blk b (setL xs off vs).toArray T :: L) := by
  intro vs
  induction vs with
  | nil => intro xs w h off; exact h
  | cons v r ih => intro xs w h off; exact ih (h.setl off v) (off + 1)
theorem Heap.writes {g o cap : Nat} : ∀ (vs : List Value) {xs : List Value} {w : World} (_ : Heap w0 w (HP.slw (.slice (.some ⟨g, o, .none⟩) n cap) sz n xs :: L)) {j : Nat} (_ : j + vs.length ≤ n * sz), Heap w0 (w.setCells g (o + j) vs) (HP.slw (.slice (.some ⟨g, o, .none⟩) n cap) sz n (setL xs j vs) :: L) := by
  intro vs
  induction vs with
  | nil => intro xs w h j _; exact h
  | cons v r ih =>
    intro xs w h j hj
    simp only [List.length_cons] at hj
    have h1 := h.write (j := j) (by omega) v
    have h2 := ih h1 (j := j + 1) (by omega)
    simp only [setL, World.setCells]
    rw [show o + (j + 1) = o + j + 1 by omega] at h2
    exact h2
theorem range_blk {w : World} (h : w.heap[b]? = .some (.cells xs.toArray T (0, 0))) (o n : Nat) (ys : List Value) (hy : (xs.drop o).take n = ys) : ∀ j v, ys[j]? = .some v → w.cell? ⟨b, o + j, .none⟩ = .some v := by
  intro j v hv
  subst hy
  simp only [World.cell?, h]
  rw [List.getElem?_take] at hv
  split at hv
  · rw [List.getElem?_drop] at hv; simpa using hv
  · cases hv
theorem cell_blk {w : World} (h : w.heap[b]? = .some (.cells xs.toArray T (0, 0))) (o : Nat) : w.cell? ⟨b, o, .none⟩ = xs[o]? ∧ w.frozen? ⟨b, o, .none⟩ = false := by
  simp [World.cell?, World.frozen?, h]
theorem Heap.noneS (h : Heap w0 w L) : Heap w0 w (HP.slw (.slice .none 0 0) sz 0 [] :: L) :=
  (Heap.emp.2 h).step fun c hc => ⟨⟨fun _ => False, fun _ => False⟩, ⟨Sl.nil w sz, by simp [sblk]⟩, .of_grown (row := .none) ⟨rfl, rfl, rfl, Nat.le_refl _, fun _ _ _ => rfl⟩ (by simp) (fun x hx => hx.elim) (fun x hx => (hx.elim id id).elim)⟩
/-! ### loads and stores of one cell, at an address -/
variable {P : Program}
theorem run_load1 {t : TypeId} {a : Addr} {u : Value} {w : World} (ha : (isAgg t).run P w = .ok false w) (hc : w.cell? a = .some u) : (Instr.loadAt t (.pointer (.some a))).run P w = .ok u w := by
  simp only [Instr.loadAt, Instr.sureAddr, loadVar, Sem.run_bind, Sem.run_pure, Result.andThen_ok, ha, Bool.false_eq_true, if_false, run_load, hc]
theorem run_store1 {t : TypeId} {b o : Nat} {u v : Value} {w : World} (hz : (sizeOf t).run P w = .ok 1 w) (hv : v.cells = #[v]) (h1 : v.oneCell' = true) (hc : w.cell? ⟨b, o, .none⟩ = .some u) (hf : w.frozen? ⟨b, o, .none⟩ = false) :
    (Instr.storeAt t (.pointer (.some ⟨b, o, .none⟩)) v).run P w = .ok () (w.setCell ⟨b, o, .none⟩ v) := by
  have := run_storeCells_cells (P := P) b o [v] 0 w (fun j hj => by have : j = 0 := by (simp at hj; exact hj)
                                                                    subst this; simp [hc]) (fun j hj => by have : j = 0 := by (simp at hj; exact hj)
                                                                                                           subst this; simpa using hf) (fun y hy => by simp at hy; subst hy; exact h1)
  simp only [Instr.storeAt, Instr.sureAddr, storeVar, Sem.run_bind, Sem.run_pure, Result.andThen_ok, hz, hv]
  simpa [World.setCells] using this
theorem setL_idem (xs vs : List Value) (j : Nat) (h : j + vs.length ≤ xs.length) : setL (setL xs j vs) j vs = setL xs j vs := by
  apply List.ext_getElem?
  intro i
  rw [setL_get _ _ _ _ (by rw [setL_len]; exact h), setL_get _ _ _ _ h]
  split <;> rfl
theorem there_blk {w : World} (h : w.heap[b]? = .some (.cells xs.toArray T (0, 0))) {o n : Nat} (hn : o + n ≤ xs.length) : w.there b o n := fun j hj => by
  rw [(cell_blk h (o + j)).1, (cell_blk h (o + j)).2, List.getElem?_eq_getElem (by omega)]
  exact ⟨rfl, rfl⟩
/-- A slice that a call has made. -/
theorem Heap.call_slw (h : Heap w0 w L) (k : Heap w w' [HP.slw v sz n xs]) : Heap w0 w' (HP.slw v sz n xs :: L) := by
  obtain ⟨hb, cs, hh, hp, hw⟩ := k
  obtain ⟨c, cs, rfl, ⟨hs, rfl⟩, h2⟩ := hh.head
  have hg : w.grownBy w' none := ⟨hb.os, hb.tape, hb.output, hb.size, fun k hk _ => hb.block k hk⟩
  exact h.make (As := [HP.slw v sz n xs]) (ds := [_]) hg (.cons ⟨hs, rfl⟩ .nil) (List.pairwise_singleton _ _) (fun c hc x hx => by
    simp only [List.mem_cons, List.mem_nil_iff, or_false] at hc
    subst hc
    exact hw _ (by simp) x (hx.elim id id))
/-- An empty slice of a block of its own: to be written. -/
theorem Heap.emptyW (h : Heap w0 w L) (T : TypeId) : Heap w0 (w.alloc (.cells #[] T)) (HP.slw (.slice (.some ⟨w.heap.size, 0, .none⟩) 0 0) sz 0 [] :: L) :=
  h.make (w' := w.alloc (.cells #[] T)) (As := [HP.slw (.slice (.some ⟨w.heap.size, 0, .none⟩) 0 0) sz 0 []]) (ds := [_]) ⟨rfl, rfl, rfl, by simp, fun k hk _ => Below.heap_alloc w _ k hk⟩
    (.cons ⟨⟨by simp, .inr ⟨w.heap.size, 0, 0, #[], T, rfl, heap_new' w _, Nat.le_refl _, by simp, by simp⟩⟩, rfl⟩ .nil) (List.pairwise_singleton _ _) (fun c hc x hx => by
    simp only [List.mem_cons, List.mem_nil_iff, or_false] at hc
    subst hc
    rcases hx with hx | hx <;> (injection hx with hx; exact hx ▸ Nat.le_refl _))
theorem Heap.dropL : ∀ {M L : List HP}, Heap w0 w (M ++ L) → Heap w0 w L
  | [], _, h => h
  | _ :: _, _, h => Heap.dropL (Heap.tail h)
theorem Heap.two (h : Heap w0 w (A :: B :: L)) : Heap w0 w [A, B] := Heap.dropL (M := L) (h.perm (List.perm_append_comm (l₁ := [A, B]) (l₂ := L)))
theorem Heap.three (h : Heap w0 w (A :: B :: C :: L)) : Heap w0 w [A, B, C] := Heap.dropL (M := L) (h.perm (List.perm_append_comm (l₁ := [A, B, C]) (l₂ := L)))
end
end Go.Proofs.YtblbgalpkodibaaDoor
