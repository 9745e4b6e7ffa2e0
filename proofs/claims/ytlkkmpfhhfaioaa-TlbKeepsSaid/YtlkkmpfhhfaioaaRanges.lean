/- Ranging over a map that is not written meanwhile. No program. -/
import Derived.Test.YtlkkmpfhhfaioaaMaps
import Derived.Maps.RangeWalk
namespace Go.Proofs.Ytlkkmpfhhfaioaa
open Go.RowKit

/-- A block that holds an object. -/
def HP.ob (b : Nat) (o : Obj) : HP where
  holds w c := w.heap[b]? = some o ∧ c = ⟨fun x => x = b, fun _ => False⟩
  loc := by rintro w w' c ⟨h, rfl⟩ hk; exact ⟨(hk b (.inl rfl)).trans h, rfl⟩
  lt := by
    rintro w c ⟨h, rfl⟩ k hk
    rcases hk with rfl | hk
    · exact lt_of_heap' h
    · exact hk.elim
section
variable {w0 w w' : World} {L : List HP} {b : Nat} {o : Obj}
theorem Heap.obj (h : Heap w0 w (HP.ob b o :: L)) : w.heap[b]? = some o := by
  obtain ⟨c, hc, _⟩ := h.get
  exact hc
theorem Heap.newOb (h : Heap w0 w L) (o : Obj) : Heap w0 (w.alloc o) (HP.ob w.heap.size o :: L) :=
  h.make (w' := w.alloc o) (As := [HP.ob w.heap.size o]) (ds := [_]) ⟨rfl, rfl, rfl, by simp, fun k hk _ => Below.heap_alloc w _ k hk⟩
    (.cons ⟨heap_new' w _, rfl⟩ .nil) (List.pairwise_singleton _ _) (fun c hc x hx => by
    simp only [List.mem_cons, List.mem_nil_iff, or_false] at hc
    subst hc
    rcases hx with hx | hx
    · exact hx ▸ Nat.le_refl _
    · exact hx.elim)
theorem Heap.setOb (h : Heap w0 w (HP.ob b o :: L)) (o' : Obj) : Heap w0 (Go.ChangeMaps.setBlock w b o') (HP.ob b o' :: L) := by
  obtain ⟨c, ⟨hh, rfl⟩, st⟩ := h.pin
  exact st ⟨heap_setObjW hh, rfl⟩ (.of_grown (grown_setObjW w b o') (fun x hx => by injection hx with hx; exact hx.symm) (fun _ h => .inl h) (fun _ h => .inl h))
variable {κ : Type} [DecidableEq κ] {enc : κ → Value} {V : κ → Prop} {bm : Nat} {F : κ → Option Value}
theorem Heap.mpOb : Heap w0 w (HP.mp enc V bm F :: L) ↔ ∃ M clock, (Good V M clock ∧ ∀ k, look M k = F k) ∧ Heap w0 w (HP.ob bm (.map (M.map (mkE enc)).toArray clock) :: L) := by
  constructor
  · intro h
    obtain ⟨c, ⟨⟨M, clock, hh, hg, hF⟩, rfl⟩, st⟩ := h.pin
    exact ⟨M, clock, ⟨hg, hF⟩, st ⟨hh, rfl⟩ (Move.self _ _)⟩
  · rintro ⟨M, clock, ⟨hg, hF⟩, h⟩
    obtain ⟨c, ⟨hh, rfl⟩, st⟩ := h.pin
    exact st ⟨⟨M, clock, hh, hg, hF⟩, rfl⟩ (Move.self _ _)

theorem inj_nodup {α β : Type} {f : α → β} : ∀ {l : List α}, (l.map f).Nodup → ∀ {x}, x ∈ l → ∀ {y}, y ∈ l → f x = f y → x = y
  | [], _, _, hx, _, _, _ => by cases hx
  | a :: l, hn, x, hx, y, hy, e => by
    simp only [List.map_cons, List.nodup_cons] at hn
    rcases List.mem_cons.1 hx with hx1 | hx1
    · rcases List.mem_cons.1 hy with hy1 | hy1
      · rw [hx1, hy1]
      · exact absurd (hx1 ▸ e ▸ List.mem_map_of_mem hy1 : f a ∈ l.map f) hn.1
    · rcases List.mem_cons.1 hy with hy1 | hy1
      · exact absurd (hy1 ▸ e ▸ List.mem_map_of_mem hx1 : f a ∈ l.map f) hn.1
      · exact inj_nodup hn.2 hx1 hy1 e
/-- What has been seen of a map. -/
def seenOf (M : List (κ × Value × Nat)) (seen : Array Nat) : List (κ × Value × Nat) := M.filter fun x => seen.contains x.2.2
omit [DecidableEq κ] in
theorem seen_empty (M : List (κ × Value × Nat)) : seenOf M #[] = [] := by
  unfold seenOf
  exact List.filter_eq_nil_iff.2 (fun x _ => by simp)
omit [DecidableEq κ] in
theorem seen_all {M : List (κ × Value × Nat)} {seen : Array Nat} (h : (leftOf (M.map (mkE enc)).toArray seen).size = 0) : seenOf M seen = M := by
  unfold seenOf
  refine List.filter_eq_self.2 fun x hx => ?_
  have h0 : (leftOf (M.map (mkE enc)).toArray seen) = #[] := Array.eq_empty_of_size_eq_zero h
  unfold leftOf at h0
  rw [Array.filter_eq_empty_iff] at h0
  have := h0 (mkE enc x) (by simp; exact ⟨_, _, _, hx, rfl⟩)
  simpa [mkE] using this
omit [DecidableEq κ] in
theorem left_mem {M : List (κ × Value × Nat)} {seen : Array Nat} {e : MapEntry} (h : e ∈ (leftOf (M.map (mkE enc)).toArray seen).toList) : ∃ x ∈ M, e = mkE enc x ∧ seen.contains x.2.2 = false := by
  unfold leftOf at h
  simp only [Array.toList_filter, List.mem_filter, List.mem_map] at h
  obtain ⟨⟨x, hx, rfl⟩, h2⟩ := h
  exact ⟨x, hx, rfl, by simpa [mkE] using h2⟩
theorem seen_push {M : List (κ × Value × Nat)} {clock : Nat} (hg : Good V M clock) {seen : Array Nat} {x : κ × Value × Nat} (hx : x ∈ M) (k : κ) :
    look (seenOf M (seen.push x.2.2)) k = if k = x.1 then some x.2.1 else look (seenOf M seen) k := by
  have hkey : ∀ y ∈ M, y.1 = x.1 → y = x := by
    intro y hy e
    exact inj_nodup hg.keys hy hx e
  have hborn : ∀ y ∈ M, y.2.2 = x.2.2 → y = x := fun y hy e => inj_nodup hg.borns hy hx e
  have hgs : ∀ s, Good V (seenOf M s) clock := fun s => hg.sub List.filter_sublist
  by_cases hk : k = x.1
  · subst hk
    rw [if_pos rfl]
    exact look_good (hgs _) (List.mem_filter.2 ⟨hx, by simp⟩)
  · rw [if_neg hk]
    cases hl : look (seenOf M seen) k with
    | some v =>
      unfold look at hl
      cases hf : (seenOf M seen).find? fun x => decide (x.1 = k) with
      | none => rw [hf] at hl; cases hl
      | some y =>
        rw [hf] at hl
        have hyk := List.find?_some hf
        have hym := List.mem_of_find?_eq_some hf
        simp at hl hyk
        subst hl; subst hyk
        obtain ⟨h1, h2⟩ := List.mem_filter.1 hym
        exact look_good (hgs _) (List.mem_filter.2 ⟨h1, by simp at h2 ⊢; exact .inl h2⟩)
    | none =>
      refine look_none fun y hy e => ?_
      obtain ⟨h1, h2⟩ := List.mem_filter.1 hy
      simp at h2
      rcases h2 with h2 | h2
      · have := look_good (hgs seen) (List.mem_filter.2 ⟨h1, by simpa using h2⟩)
        rw [e, hl] at this
        cases this
      · have := hborn y h1 h2
        subst this
        exact hk e.symm
omit [DecidableEq κ] in
theorem left_less {M : List (κ × Value × Nat)} {seen : Array Nat} {x : κ × Value × Nat} (hx : x ∈ M) (hs : seen.contains x.2.2 = false) :
    (leftOf (M.map (mkE enc)).toArray (seen.push x.2.2)).size < (leftOf (M.map (mkE enc)).toArray seen).size := by
  have key : ∀ (M : List (κ × Value × Nat)), (M.filter fun y => !(seen.push x.2.2).contains y.2.2).length ≤ (M.filter fun y => !seen.contains y.2.2).length ∧ (x ∈ M → (M.filter fun y => !(seen.push x.2.2).contains y.2.2).length < (M.filter fun y => !seen.contains y.2.2).length) := by
    intro M
    induction M with
    | nil => simp
    | cons y M ih =>
      have hpush : (seen.push x.2.2).contains y.2.2 = (seen.contains y.2.2 || decide (y.2.2 = x.2.2)) := by
        rw [Bool.eq_iff_iff]; simp
      simp only [List.filter_cons, hpush]
      cases hc : seen.contains y.2.2 with
      | true =>
        simp only [Bool.true_or, Bool.not_true, Bool.false_eq_true, if_false]
        refine ⟨ih.1, fun hm => ?_⟩
        rcases List.mem_cons.1 hm with rfl | hm
        · rw [hc] at hs; cases hs
        · exact ih.2 hm
      | false =>
        by_cases hb : y.2.2 = x.2.2
        · simp only [hb, decide_true, Bool.or_true, Bool.not_true, Bool.false_eq_true, if_false, Bool.not_false, if_true, List.length_cons]
          exact ⟨by have := ih.1; omega, fun _ => by have := ih.1; omega⟩
        · simp only [hb, decide_false, Bool.or_false, Bool.not_false, if_true, List.length_cons]
          refine ⟨by have := ih.1; omega, fun hm => ?_⟩
          rcases List.mem_cons.1 hm with rfl | hm
          · exact absurd rfl hb
          · have := ih.2 hm; omega
  have h1 : ∀ s : Array Nat, (leftOf (M.map (mkE enc)).toArray s).size = (M.filter fun y => !s.contains y.2.2).length := by
    intro s
    unfold leftOf
    rw [← Array.length_toList, Array.toList_filter, List.toList_toArray, List.filter_map, List.length_map]
    rfl
  rw [h1, h1]
  exact (key M).2 hx
end
section
variable {P : Program} {w : World} {ops : Array Oper} {rest : List Oper} {o : Oper} {a : Act} {Q : Exit → Act → World → Prop}
theorem wpList_next_at (hg : o.guard = none) (it : Operand) (hop : o.op = Op.next it false) {r bm since c0 : Nat} {seen : Array Nat} {es : Array MapEntry} {clock : Nat} (hit : a.eval it = .pointer (some ⟨r, 0, none⟩))
    (hr : w.heap[r]? = some (.mapIter (some bm) since seen c0)) (hb : w.heap[bm]? = some (.map es clock)) (hold : ∀ x ∈ es.toList, x.born < since) (hsc : since ≤ c0)
    (hDone : (leftOf es seen).size = 0 → wpList P ops Q rest (a.put o.dst (.tuple #[.bool false])) w)
    (hMore : ∀ (e : MapEntry) (w1 : World), e ∈ (leftOf es seen).toList → (w1 = w ∨ w1 = w.drew) → wpList P ops Q rest (a.put o.dst (.tuple #[.bool true, e.key, e.val])) (Go.ChangeMaps.setBlock w1 r (.mapIter (some bm) since (seen.push e.born) clock))) :
    wpList P ops Q (o :: rest) a w := by
  refine wpList_plain hg fun K' hK' => ?_
  unfold Oper.wp
  rcases run_next_at (P := P) w o.type r bm since c0 seen es clock hr hb hold hsc with ⟨h0, hrun⟩ | ⟨e, he, w1, hw1, hrun⟩
  · simp [execOp, hop, hit, hrun, Result.andThen]
    exact hK' _ _ (hDone h0)
  · simp [execOp, hop, hit, hrun, Result.andThen]
    exact hK' _ _ (hMore e w1 he hw1)
theorem run_range_at {t k e : TypeId} {bm clock : Nat} {es : Array MapEntry} (ht : P.underlying t = some (.map k e)) (hb : w.heap[bm]? = some (.map es clock)) :
    (Instr.range t (.map (some bm))).run P w = .ok (.pointer (some ⟨w.heap.size, 0, none⟩)) (w.alloc (.mapIter (some bm) clock #[] clock)) := by
  unfold Instr.range
  simp only [Sem.run_bind, run_underlying ht, Result.andThen_ok, getObj, Sem.run, hb]
  rfl
end
end Go.Proofs.Ytlkkmpfhhfaioaa
