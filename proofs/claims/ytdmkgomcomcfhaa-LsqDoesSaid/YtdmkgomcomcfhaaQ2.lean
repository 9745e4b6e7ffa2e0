/- Layer 23: the state in memory: a queue of pointers, the entries in blocks of their own, the habits. -/
import Derived.Test.YtdmkgomcomcfhaaQ1
import Derived.Test.YtdmkgomcomcfhaaTools3
namespace Go.Proofs.Ytdmkgomcomcfhaa
open Go.RowKit

def ptr (b : Nat) : Value := .pointer (some ⟨b, 0, none⟩)
def ptrs (bs : List Nat) : List Value := bs.map ptr
theorem ptrs_get (bs : List Nat) (k : Nat) : (ptrs bs)[k]? = (bs[k]?).map ptr := by unfold ptrs; rw [List.getElem?_map]
theorem ptrs_len (bs : List Nat) : (ptrs bs).length = bs.length := by simp [ptrs]
def HP.ents : List Nat → List Ent → HP
  | b :: bs, e :: l => (HP.blk b e.cs.toArray 76).star (HP.ents bs l)
  | _, _ => HP.emp
def hv (h : Hb) (i : Nat) : Value := if i % 2 = 0 then .int .u64 (h (i / 2)).1 else .bool (h (i / 2)).2
def qcs (v : Value) (h : Hb) : List Value := v :: (List.range 32).map (hv h)
theorem qcs_len (v : Value) (h : Hb) : (qcs v h).length = 33 := by simp [qcs]
theorem qcs_0 (v : Value) (h : Hb) : (qcs v h)[0]? = some v := rfl
theorem qcs_get (v : Value) (h : Hb) {i : Nat} (hi : i < 32) : (qcs v h)[i + 1]? = some (hv h i) := by
  unfold qcs
  rw [List.getElem?_cons_succ, List.getElem?_map, List.getElem?_range hi]
  rfl
theorem qcs_set0 (v u : Value) (h : Hb) : (qcs v h).set 0 u = qcs u h := rfl
theorem qcs_hab (v : Value) (h : Hb) {n : Nat} (hn : n < 16) (p : Int) (t : Bool) : setL (qcs v h) (1 + n * 2) [.int .u64 p, .bool t] = qcs v (setH h n (p, t)) := by
  apply List.ext_getElem?
  intro i
  rw [setL_get _ _ _ _ (by rw [qcs_len]; simp; omega)]
  cases i with
  | zero => rw [if_neg (by omega)]; rfl
  | succ i =>
    by_cases hi : i < 32
    · rw [qcs_get v h hi, qcs_get v _ hi]
      simp only [List.length_cons, List.length_nil]
      by_cases h1 : i / 2 = n
      · have h2 : i = n * 2 ∨ i = n * 2 + 1 := by omega
        rcases h2 with rfl | rfl
        · rw [if_pos (by omega), show n * 2 + 1 - (1 + n * 2) = 0 by omega]
          simp [hv, setH, h1]
        · rw [if_pos (by omega), show n * 2 + 1 + 1 - (1 + n * 2) = 1 by omega]
          have h3 : ¬ (n * 2 + 1) % 2 = 0 := by omega
          simp [hv, setH, h1, h3]
      · rw [if_neg (by omega)]
        simp [hv, setH, h1]
    · rw [if_neg (by simp; omega), List.getElem?_eq_none (by rw [qcs_len]; omega), List.getElem?_eq_none (by rw [qcs_len]; omega)]
section
variable {w0 w : World} {L : List HP} {b : Nat} {bs : List Nat} {l : List Ent} {e : Ent}
theorem Heap.ents_cons : Heap w0 w (HP.ents (b :: bs) (e :: l) :: L) ↔ Heap w0 w (HP.blk b e.cs.toArray 76 :: HP.ents bs l :: L) := by
  simp only [HP.ents, Heap.star]
theorem Heap.ents_nil : Heap w0 w (HP.ents [] [] :: L) ↔ Heap w0 w L := by simp only [HP.ents, Heap.emp]
theorem Heap.ents_out : ∀ {k : Nat} {bs : List Nat} {l : List Ent} {L : List HP} {b : Nat} {e : Ent}, Heap w0 w (HP.ents bs l :: L) → bs[k]? = some b → l[k]? = some e →
    Heap w0 w (HP.blk b e.cs.toArray 76 :: HP.ents (bs.eraseIdx k) (l.eraseIdx k) :: L) := by
  intro k
  induction k with
  | zero =>
    intro bs l L b e h h1 h2
    cases bs with
    | nil => simp at h1
    | cons b0 bs =>
      cases l with
      | nil => simp at h2
      | cons e0 l =>
        simp at h1 h2
        subst h1 h2
        exact Heap.ents_cons.1 h
  | succ k ih =>
    intro bs l L b e h h1 h2
    cases bs with
    | nil => simp at h1
    | cons b0 bs =>
      cases l with
      | nil => simp at h2
      | cons e0 l =>
        have h3 := ih (Heap.ents_cons.1 h).f2 (by simpa using h1) (by simpa using h2)
        exact (Heap.ents_cons.2 h3.f3.f3.f2).f2
theorem Heap.ents_in : ∀ {k : Nat} {bs : List Nat} {l : List Ent} {L : List HP} {b : Nat} {e : Ent}, Heap w0 w (HP.blk b e.cs.toArray 76 :: HP.ents (bs.eraseIdx k) (l.eraseIdx k) :: L) → bs[k]? = some b → k < l.length →
    Heap w0 w (HP.ents bs (l.set k e) :: L) := by
  intro k
  induction k with
  | zero =>
    intro bs l L b e h h1 h2
    cases bs with
    | nil => simp at h1
    | cons b0 bs =>
      cases l with
      | nil => simp at h2
      | cons e0 l =>
        simp at h1
        subst h1
        exact Heap.ents_cons.2 h
  | succ k ih =>
    intro bs l L b e h h1 h2
    cases bs with
    | nil => simp at h1
    | cons b0 bs =>
      cases l with
      | nil => simp at h2
      | cons e0 l =>
        have h4 : Heap w0 w (HP.ents (b0 :: bs.eraseIdx k) (e0 :: l.eraseIdx k) :: HP.blk b e.cs.toArray 76 :: L) := Heap.f2 h
        have h3 := ih (L := HP.blk b0 e0.cs.toArray 76 :: L) (Heap.ents_cons.1 h4).b3.f2 (by simpa using h1) (by simpa using h2)
        exact Heap.ents_cons.2 h3.f2
theorem Heap.ents_get (h : Heap w0 w (HP.ents bs l :: L)) {k : Nat} (h1 : bs[k]? = some b) (h2 : l[k]? = some e) : w.heap[b]? = some (.cells e.cs.toArray 76 (0, 0)) := (h.ents_out h1 h2).heap
theorem Heap.ents_snoc : ∀ {bs : List Nat} {l : List Ent} {L : List HP}, Heap w0 w (HP.ents bs l :: HP.blk b e.cs.toArray 76 :: L) → bs.length = l.length → Heap w0 w (HP.ents (bs ++ [b]) (l ++ [e]) :: L) := by
  intro bs
  induction bs with
  | nil =>
    intro l L h hl
    have : l = [] := List.eq_nil_of_length_eq_zero (by simpa using hl.symm)
    subst this
    exact Heap.ents_cons.2 h.f2.f2.f2
  | cons b0 bs ih =>
    intro l L h hl
    cases l with
    | nil => simp at hl
    | cons e0 l => exact Heap.ents_cons.2 (ih (Heap.ents_cons.1 h).b3 (by simpa using hl)).f2
theorem Heap.ents_take : ∀ (n : Nat) {bs : List Nat} {l : List Ent} {L : List HP}, Heap w0 w (HP.ents bs l :: L) → Heap w0 w (HP.ents (bs.take n) (l.take n) :: L) := by
  intro n
  induction n with
  | zero => intro bs l L h; exact Heap.ents_nil.2 h.tail
  | succ n ih =>
    intro bs l L h
    cases bs with
    | nil => cases l <;> exact h
    | cons b0 bs =>
      cases l with
      | nil => exact h
      | cons e0 l => exact Heap.ents_cons.2 (ih (Heap.ents_cons.1 h).f2).f2
end
def HP.q (b : Nat) (q : Qs) : HP := HP.any fun x : Value × List Nat => HP.und (QI q ∧ x.2.length = q.l.length) (((HP.blk b (qcs x.1 q.h).toArray 69).star (HP.slw x.1 1 q.l.length (ptrs x.2))).star (HP.ents x.2 q.l))
section
variable {w0 w : World} {L : List HP} {b : Nat} {q : Qs}
theorem Heap.qq : Heap w0 w (HP.q b q :: L) ↔ ∃ x : Value × List Nat, (QI q ∧ x.2.length = q.l.length) ∧ Heap w0 w (HP.blk b (qcs x.1 q.h).toArray 69 :: HP.slw x.1 1 q.l.length (ptrs x.2) :: HP.ents x.2 q.l :: L) := by
  simp only [HP.q, Heap.any, Heap.und, Heap.star]
/-- What is read of a queue. -/
structure RQ (w : World) (b : Nat) (A : Option Addr) (cap : Nat) (bs : List Nat) (q : Qs) : Prop where
  inv : QI q
  lenl : bs.length = q.l.length
  capl : q.l.length ≤ cap
  blk : w.heap[b]? = some (.cells (qcs (.slice A q.l.length cap) q.h).toArray 69 (0, 0))
  sl : Sl w 1 (.slice A q.l.length cap) q.l.length (ptrs bs)
  ent : ∀ (k x : Nat) (e : Ent), bs[k]? = some x → q.l[k]? = some e → w.heap[x]? = some (.cells e.cs.toArray 76 (0, 0))
theorem Heap.qr (h : Heap w0 w (HP.q b q :: L)) : ∃ A cap bs, RQ w b A cap bs q ∧ Heap w0 w (HP.blk b (qcs (.slice A q.l.length cap) q.h).toArray 69 :: HP.slw (.slice A q.l.length cap) 1 q.l.length (ptrs bs) :: HP.ents bs q.l :: L) := by
  obtain ⟨⟨v, bs⟩, ⟨hI, hl⟩, hh⟩ := Heap.qq.1 h
  obtain ⟨A, cap, rfl, hc⟩ := hh.f2.slw.parts
  exact ⟨A, cap, bs, ⟨hI, hl, hc, hh.heap, hh.f2.slw, fun k x e h1 h2 => hh.f3.ents_get h1 h2⟩, hh⟩
theorem Heap.qc {A : Option Addr} {cap : Nat} {bs : List Nat} (hI : QI q) (hl : bs.length = q.l.length) (h : Heap w0 w (HP.blk b (qcs (.slice A q.l.length cap) q.h).toArray 69 :: HP.slw (.slice A q.l.length cap) 1 q.l.length (ptrs bs) :: HP.ents bs q.l :: L)) : Heap w0 w (HP.q b q :: L) :=
  Heap.qq.2 ⟨(_, _), ⟨hI, hl⟩, h⟩
theorem RQ.gn {w' : World} {A : Option Addr} {cap : Nat} {bs : List Nat} (h : RQ w b A cap bs q) (hg : GN w w') : RQ w' b A cap bs q :=
  ⟨h.inv, h.lenl, h.capl, hg.heap h.blk, h.sl.gn hg, fun k x e h1 h2 => hg.heap (h.ent k x e h1 h2)⟩
/-- The k-th entry: its pointer, its block. -/
theorem RQ.at_ {A : Option Addr} {cap : Nat} {bs : List Nat} (h : RQ w b A cap bs q) {k : Nat} (hk : k < q.l.length) : ∃ g o x e, A = some ⟨g, o, none⟩ ∧ q.l[k]? = some e ∧ bs[k]? = some x ∧ g < w.heap.size ∧
    w.cell? ⟨g, o + k, none⟩ = some (ptr x) ∧ x < w.heap.size ∧ w.heap[x]? = some (.cells e.cs.toArray 76 (0, 0)) := by
  obtain ⟨g, o, cap', hv, _⟩ := h.sl.addr (by omega)
  injection hv with hv _ hv2
  subst hv hv2
  obtain ⟨h1, h2, _⟩ := h.sl.at_ (j := k) (by omega)
  obtain ⟨e, he⟩ : ∃ e, q.l[k]? = some e := ⟨_, List.getElem?_eq_getElem hk⟩
  obtain ⟨x, hx⟩ : ∃ x, bs[k]? = some x := ⟨_, List.getElem?_eq_getElem (by rw [h.lenl]; exact hk)⟩
  have hb := h.ent k x e hx he
  rw [ptrs_get, hx] at h2
  exact ⟨g, o, x, e, rfl, he, hx, h1, h2, lt_of_heap' hb, hb⟩
theorem RQ.c0 {A : Option Addr} {cap : Nat} {bs : List Nat} (h : RQ w b A cap bs q) : w.cell? ⟨b, 0, none⟩ = some (.slice A q.l.length cap) ∧ w.frozen? ⟨b, 0, none⟩ = false ∧ b < w.heap.size := by
  have := cell_blk h.blk 0
  exact ⟨this.1, this.2, lt_of_heap' h.blk⟩
end
theorem cells9 {w : World} {b : Nat} {e : Ent} (h : w.heap[b]? = some (.cells e.cs.toArray 76 (0, 0))) :
    w.cell? ⟨b, 0, none⟩ = some (.int .i64 e.tag) ∧ w.cell? ⟨b, 1, none⟩ = some (.int .u64 e.pc) ∧ w.cell? ⟨b, 2, none⟩ = some (.bool e.store) ∧ w.cell? ⟨b, 3, none⟩ = some (.bool e.placed) ∧ w.cell? ⟨b, 4, none⟩ = some (.bool e.data) ∧
    w.cell? ⟨b, 5, none⟩ = some (.bool e.read) ∧ w.cell? ⟨b, 6, none⟩ = some (.int .u64 e.at_) ∧ w.cell? ⟨b, 7, none⟩ = some (.int .i64 e.size) ∧ w.cell? ⟨b, 8, none⟩ = some (.int .u64 e.v) := by
  simp [World.cell?, h, Ent.cs]
theorem frozen9 {w : World} {b : Nat} {e : Ent} (h : w.heap[b]? = some (.cells e.cs.toArray 76 (0, 0))) (i : Nat) : w.frozen? ⟨b, i, none⟩ = false := (cell_blk h i).2
end Go.Proofs.Ytdmkgomcomcfhaa
