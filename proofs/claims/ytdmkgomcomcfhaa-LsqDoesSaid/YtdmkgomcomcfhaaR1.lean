/- Layer 23: the reference's state in memory: entries in a slice, the habits in two slices. -/
import Derived.Test.YtdmkgomcomcfhaaQ14
namespace Go.Proofs.Ytdmkgomcomcfhaa
open Go.RowKit

def entsC (l : List Ent) : List Value := l.flatMap Ent.cs
theorem Ent.cs_len (e : Ent) : e.cs.length = 9 := rfl
theorem entsC_len (l : List Ent) : (entsC l).length = l.length * 9 := by
  unfold entsC
  induction l with
  | nil => rfl
  | cons e l ih => rw [List.flatMap_cons, List.length_append, ih, Ent.cs_len, List.length_cons]; omega
theorem entsC_app (l m : List Ent) : entsC (l ++ m) = entsC l ++ entsC m := by unfold entsC; rw [List.flatMap_append]
theorem entsC_cons (e : Ent) (l : List Ent) : entsC (e :: l) = e.cs ++ entsC l := rfl
theorem entsC_one (e : Ent) : entsC [e] = e.cs := by unfold entsC; simp
theorem entsC_get {e : Ent} {j : Nat} (hj : j < 9) : ∀ {l : List Ent} {k : Nat}, l[k]? = some e → (entsC l)[k * 9 + j]? = e.cs[j]? := by
  intro l
  induction l with
  | nil => intro k h; simp at h
  | cons f l ih =>
    intro k h
    rw [entsC_cons]
    cases k with
    | zero =>
      simp at h
      subst h
      rw [List.getElem?_append_left (by rw [Ent.cs_len]; omega), Nat.zero_mul, Nat.zero_add]
    | succ k =>
      rw [List.getElem?_append_right (by rw [Ent.cs_len]; omega), Ent.cs_len, show (k + 1) * 9 + j - 9 = k * 9 + j by omega]
      exact ih (by simpa using h)
theorem entsC_set {e e' : Ent} {j : Nat} {v : Value} (hj : j < 9) (hv : e'.cs = e.cs.set j v) : ∀ {l : List Ent} {k : Nat}, l[k]? = some e → (entsC l).set (k * 9 + j) v = entsC (l.set k e') := by
  intro l
  induction l with
  | nil => intro k h; simp at h
  | cons f l ih =>
    intro k h
    rw [entsC_cons]
    cases k with
    | zero =>
      simp at h
      subst h
      rw [List.set_append_left _ _ (by rw [Ent.cs_len]; omega), Nat.zero_mul, Nat.zero_add, List.set_cons_zero, entsC_cons, hv]
    | succ k =>
      rw [List.set_append_right _ _ (by rw [Ent.cs_len]; omega), Ent.cs_len, show (k + 1) * 9 + j - 9 = k * 9 + j by omega, ih (by simpa using h), List.set_cons_succ, entsC_cons]
theorem entsC_cell (l : List Ent) : ∀ y ∈ entsC l, y.oneCell' = true := by
  intro y hy
  unfold entsC at hy
  obtain ⟨e, _, h⟩ := List.mem_flatMap.1 hy
  unfold Ent.cs at h
  simp only [List.mem_cons, List.mem_nil_iff, or_false] at h
  rcases h with rfl | rfl | rfl | rfl | rfl | rfl | rfl | rfl | rfl <;> rfl
theorem entsC_drop (e : Ent) (l : List Ent) : (entsC (e :: l)).drop 9 = entsC l := by
  rw [entsC_cons, List.drop_append_of_le_length (by rw [Ent.cs_len]; omega), show e.cs.drop 9 = [] from rfl]
  rfl
def hU (h : Hb) : List Value := (List.range 16).map fun i => .int .u64 (h i).1
def hB (h : Hb) : List Value := (List.range 16).map fun i => .bool (h i).2
theorem hU_len (h : Hb) : (hU h).length = 16 := by simp [hU]
theorem hB_len (h : Hb) : (hB h).length = 16 := by simp [hB]
theorem hU_get (h : Hb) {i : Nat} (hi : i < 16) : (hU h)[i]? = some (.int .u64 (h i).1) := by unfold hU; rw [List.getElem?_map, List.getElem?_range hi]; rfl
theorem hB_get (h : Hb) {i : Nat} (hi : i < 16) : (hB h)[i]? = some (.bool (h i).2) := by unfold hB; rw [List.getElem?_map, List.getElem?_range hi]; rfl
theorem hU_set (h : Hb) {i : Nat} (hi : i < 16) (p : Int) (t : Bool) : (hU h).set i (.int .u64 p) = hU (setH h i (p, t)) := by
  apply List.ext_getElem?
  intro j
  rw [List.getElem?_set]
  by_cases hj : j < 16
  · rw [hU_get _ hj, hU_get _ hj]
    unfold setH
    by_cases hji : i = j
    · subst hji; rw [if_pos rfl, if_pos (by rw [hU_len]; exact hi), if_pos rfl]
    · rw [if_neg hji, if_neg (fun e => hji e.symm)]
  · rw [if_neg (by omega), List.getElem?_eq_none (by rw [hU_len]; omega), List.getElem?_eq_none (by rw [hU_len]; omega)]
theorem hB_set (h : Hb) {i : Nat} (hi : i < 16) (p : Int) (t : Bool) : (hB h).set i (.bool t) = hB (setH h i (p, t)) := by
  apply List.ext_getElem?
  intro j
  rw [List.getElem?_set]
  by_cases hj : j < 16
  · rw [hB_get _ hj, hB_get _ hj]
    unfold setH
    by_cases hji : i = j
    · subst hji; rw [if_pos rfl, if_pos (by rw [hB_len]; exact hi), if_pos rfl]
    · rw [if_neg hji, if_neg (fun e => hji e.symm)]
  · rw [if_neg (by omega), List.getElem?_eq_none (by rw [hB_len]; omega), List.getElem?_eq_none (by rw [hB_len]; omega)]
def HP.r (b : Nat) (q : Qs) : HP := HP.any fun x : Value × Value × Value => HP.und (QI q) (((HP.blk b #[x.1, x.2.1, x.2.2] 72).star (HP.slw x.1 9 q.l.length (entsC q.l))).star ((HP.slw x.2.1 1 16 (hU q.h)).star (HP.slw x.2.2 1 16 (hB q.h))))
section
variable {w0 w : World} {L : List HP} {b : Nat} {q : Qs}
theorem Heap.rr : Heap w0 w (HP.r b q :: L) ↔ ∃ x : Value × Value × Value, QI q ∧ Heap w0 w (HP.blk b #[x.1, x.2.1, x.2.2] 72 :: HP.slw x.1 9 q.l.length (entsC q.l) :: HP.slw x.2.1 1 16 (hU q.h) :: HP.slw x.2.2 1 16 (hB q.h) :: L) := by
  simp only [HP.r, Heap.any, Heap.und, Heap.star]
  exact ⟨fun ⟨x, h1, h2⟩ => ⟨x, h1, ((Heap.star.1 h2.f3).f3).f4.f2⟩, fun ⟨x, h1, h2⟩ => ⟨x, h1, (Heap.star.2 h2.f3.f4.f2).b3⟩⟩
/-- What is read of the reference's queue. -/
structure RR (w : World) (b : Nat) (A : Option Addr) (cap gh oh ch gi oi ci : Nat) (q : Qs) : Prop where
  inv : QI q
  capl : q.l.length ≤ cap
  blk : w.heap[b]? = some (.cells #[.slice A q.l.length cap, .slice (some ⟨gh, oh, none⟩) 16 ch, .slice (some ⟨gi, oi, none⟩) 16 ci] 72 (0, 0))
  sl : Sl w 9 (.slice A q.l.length cap) q.l.length (entsC q.l)
  su : Sl w 1 (.slice (some ⟨gh, oh, none⟩) 16 ch) 16 (hU q.h)
  sb : Sl w 1 (.slice (some ⟨gi, oi, none⟩) 16 ci) 16 (hB q.h)
/-- The reference's queue, open. -/
def OR (b : Nat) (A : Option Addr) (cap gh oh ch gi oi ci : Nat) (q : Qs) (L : List HP) : List HP :=
  HP.blk b #[.slice A q.l.length cap, .slice (some ⟨gh, oh, none⟩) 16 ch, .slice (some ⟨gi, oi, none⟩) 16 ci] 72 :: HP.slw (.slice A q.l.length cap) 9 q.l.length (entsC q.l) :: HP.slw (.slice (some ⟨gh, oh, none⟩) 16 ch) 1 16 (hU q.h) :: HP.slw (.slice (some ⟨gi, oi, none⟩) 16 ci) 1 16 (hB q.h) :: L
variable {A : Option Addr} {cap gh oh ch gi oi ci : Nat}
theorem Heap.rro (h : Heap w0 w (HP.r b q :: L)) : ∃ A cap gh oh ch gi oi ci, RR w b A cap gh oh ch gi oi ci q ∧ Heap w0 w (OR b A cap gh oh ch gi oi ci q L) := by
  obtain ⟨⟨v, vh, vi⟩, hI, hh⟩ := Heap.rr.1 h
  obtain ⟨A, cap, rfl, hc⟩ := hh.f2.slw.parts
  obtain ⟨gh, oh, ch, rfl, _⟩ := hh.f3.slw.addr (by omega)
  obtain ⟨gi, oi, ci, rfl, _⟩ := hh.f4.slw.addr (by omega)
  exact ⟨A, cap, gh, oh, ch, gi, oi, ci, ⟨hI, hc, hh.heap, hh.f2.slw, hh.f3.slw, hh.f4.slw⟩, hh⟩
theorem Heap.rrc (hI : QI q) (h : Heap w0 w (OR b A cap gh oh ch gi oi ci q L)) : Heap w0 w (HP.r b q :: L) :=
  Heap.rr.2 ⟨(_, _, _), hI, h⟩
theorem Heap.rrr (hI : QI q) (hc : q.l.length ≤ cap) (h : Heap w0 w (OR b A cap gh oh ch gi oi ci q L)) : RR w b A cap gh oh ch gi oi ci q :=
  ⟨hI, hc, Heap.heap h, (Heap.f2 h).slw, (Heap.f3 h).slw, (Heap.f4 h).slw⟩
theorem RR.gn {w' : World} (h : RR w b A cap gh oh ch gi oi ci q) (hg : GN w w') : RR w' b A cap gh oh ch gi oi ci q :=
  ⟨h.inv, h.capl, hg.heap h.blk, h.sl.gn hg, h.su.gn hg, h.sb.gn hg⟩
theorem RR.c0 (h : RR w b A cap gh oh ch gi oi ci q) : w.cell? ⟨b, 0, none⟩ = some (.slice A q.l.length cap) ∧ w.frozen? ⟨b, 0, none⟩ = false ∧ b < w.heap.size := by
  have := cell_blk h.blk 0
  exact ⟨this.1, this.2, lt_of_heap' h.blk⟩
theorem RR.c1 (h : RR w b A cap gh oh ch gi oi ci q) : w.cell? ⟨b, 1, none⟩ = some (.slice (some ⟨gh, oh, none⟩) 16 ch) := (cell_blk h.blk 1).1
theorem RR.c2 (h : RR w b A cap gh oh ch gi oi ci q) : w.cell? ⟨b, 2, none⟩ = some (.slice (some ⟨gi, oi, none⟩) 16 ci) := (cell_blk h.blk 2).1
theorem RR.hab (h : RR w b A cap gh oh ch gi oi ci q) {r : Nat} (hr : r < 16) : w.cell? ⟨gh, oh + r, none⟩ = some (.int .u64 (q.h r).1) ∧ w.frozen? ⟨gh, oh + r, none⟩ = false ∧ gh < w.heap.size ∧ w.cell? ⟨gi, oi + r, none⟩ = some (.bool (q.h r).2) ∧ w.frozen? ⟨gi, oi + r, none⟩ = false ∧ gi < w.heap.size := by
  obtain ⟨a1, a2, a3⟩ := h.su.at_ (j := r) (by omega)
  obtain ⟨b1, b2, b3⟩ := h.sb.at_ (j := r) (by omega)
  rw [hU_get _ hr] at a2
  rw [hB_get _ hr] at b2
  exact ⟨a2, a3, a1, b2, b3, b1⟩
/-- The cells of the k-th entry. -/
theorem ent_cells {g o cap n : Nat} {l : List Ent} (h : Sl w 9 (.slice (some ⟨g, o, none⟩) n cap) n (entsC l)) {k : Nat} {e : Ent} (he : l[k]? = some e) (hk : k < n) :
    (w.cell? ⟨g, o + k * 9, none⟩ = some (.int .i64 e.tag) ∧ w.cell? ⟨g, o + k * 9 + 1, none⟩ = some (.int .u64 e.pc) ∧ w.cell? ⟨g, o + k * 9 + 2, none⟩ = some (.bool e.store) ∧ w.cell? ⟨g, o + k * 9 + 3, none⟩ = some (.bool e.placed) ∧ w.cell? ⟨g, o + k * 9 + 4, none⟩ = some (.bool e.data) ∧
    w.cell? ⟨g, o + k * 9 + 5, none⟩ = some (.bool e.read) ∧ w.cell? ⟨g, o + k * 9 + 6, none⟩ = some (.int .u64 e.at_) ∧ w.cell? ⟨g, o + k * 9 + 7, none⟩ = some (.int .i64 e.size) ∧ w.cell? ⟨g, o + k * 9 + 8, none⟩ = some (.int .u64 e.v)) ∧ g < w.heap.size := by
  have hc : ∀ j, j < 9 → w.cell? ⟨g, o + k * 9 + j, none⟩ = e.cs[j]? := fun j hj => by
    have := (h.at_ (j := k * 9 + j) (by omega)).2.1
    rw [entsC_get hj he, ← Nat.add_assoc] at this
    exact this
  have hg := (h.at_ (j := k * 9) (by omega)).1
  exact ⟨⟨hc 0 (by omega), hc 1 (by omega), hc 2 (by omega), hc 3 (by omega), hc 4 (by omega), hc 5 (by omega), hc 6 (by omega), hc 7 (by omega), hc 8 (by omega)⟩, hg⟩
theorem ent_frozen {g o cap n : Nat} {l : List Ent} (h : Sl w 9 (.slice (some ⟨g, o, none⟩) n cap) n (entsC l)) {k : Nat} (hk : k < n) {j : Nat} (hj : j < 9) : w.frozen? ⟨g, o + k * 9 + j, none⟩ = false := by
  have := (h.at_ (j := k * 9 + j) (by omega)).2.2
  rw [← Nat.add_assoc] at this
  exact this
theorem RR.at_ (h : RR w b A cap gh oh ch gi oi ci q) {k : Nat} (hk : k < q.l.length) : ∃ g o e, A = some ⟨g, o, none⟩ ∧ q.l[k]? = some e ∧ g < w.heap.size ∧
    (w.cell? ⟨g, o + k * 9, none⟩ = some (.int .i64 e.tag) ∧ w.cell? ⟨g, o + k * 9 + 1, none⟩ = some (.int .u64 e.pc) ∧ w.cell? ⟨g, o + k * 9 + 2, none⟩ = some (.bool e.store) ∧ w.cell? ⟨g, o + k * 9 + 3, none⟩ = some (.bool e.placed) ∧ w.cell? ⟨g, o + k * 9 + 4, none⟩ = some (.bool e.data) ∧
    w.cell? ⟨g, o + k * 9 + 5, none⟩ = some (.bool e.read) ∧ w.cell? ⟨g, o + k * 9 + 6, none⟩ = some (.int .u64 e.at_) ∧ w.cell? ⟨g, o + k * 9 + 7, none⟩ = some (.int .i64 e.size) ∧ w.cell? ⟨g, o + k * 9 + 8, none⟩ = some (.int .u64 e.v)) := by
  obtain ⟨g, o, cap', hv, _⟩ := h.sl.addr (by omega)
  injection hv with hv _ hv2
  subst hv hv2
  obtain ⟨e, he⟩ : ∃ e, q.l[k]? = some e := ⟨_, List.getElem?_eq_getElem hk⟩
  obtain ⟨hc, hg⟩ := ent_cells h.sl he hk
  exact ⟨g, o, e, rfl, he, hg, hc⟩
end
/-- An entry with its place: no byte of it lies beyond the end. -/
theorem has_ref {e : Ent} (h : e.ok) (a : Int) (a0 : 0 ≤ a) (a1 : a < 18446744073709551616) : e.has a = (e.placed && decide (e.at_ ≤ a) && decide ((a - e.at_) % 18446744073709551616 < e.size)) := by
  unfold Ent.has
  cases hp : e.placed with
  | false => rfl
  | true =>
    simp only [Bool.true_and]
    by_cases hle : e.at_ ≤ a
    · rw [decide_eq_true hle]; rfl
    · rw [decide_eq_false hle]
      simp only [Bool.false_and]
      apply decide_eq_false
      have hat := h.at_
      rcases h.size with ⟨h1, _⟩ | ⟨_, hs, hm⟩
      · rw [hp] at h1; cases h1
      · rcases hs with hs | hs | hs | hs <;> rw [hs] at hm ⊢ <;> omega
end Go.Proofs.Ytdmkgomcomcfhaa
