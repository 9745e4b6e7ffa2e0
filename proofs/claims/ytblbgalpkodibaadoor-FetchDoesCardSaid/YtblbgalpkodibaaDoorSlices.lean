/- Slices anywhere in a block: reading, cutting, appending. No program. -/
import Derived.WalkKit
import Derived.WalkLawsBesides
import Derived.Deep.QuietTactic
import Derived.BigQuiet
namespace Go.Proofs.YtblbgalpkodibaaDoor
open Go.RowKit

/-- The block of a slice; and the one into which an append may write. -/
def sblk : Value → Option Nat
  | .slice (some a) _ _ => some a.block
  | _ => none
def spare : Value → Option Nat
  | .slice (some a) n cap => if n < cap then some a.block else none
  | _ => none

/-- The slice value v has n elements of sz cells each, and reads as the cells xs. -/
structure Sl (w : World) (sz : Nat) (v : Value) (n : Nat) (xs : List Value) : Prop where
  len : xs.length = n * sz
  form : (v = .slice none 0 0 ∧ n = 0) ∨ ∃ (g o cap : Nat) (cur : Array Value) (T : TypeId), v = .slice (some ⟨g, o, none⟩) n cap ∧ w.heap[g]? = some (.cells cur T (0, 0)) ∧ n ≤ cap ∧
    o + cap * sz ≤ cur.size ∧ (cur.toList.drop o).take (n * sz) = xs

section
variable {w w' : World} {sz : Nat} {v u : Value} {n m : Nat} {xs ys : List Value}

theorem Sl.nil (w : World) (sz : Nat) : Sl w sz (.slice none 0 0) 0 [] := ⟨by simp, .inl ⟨rfl, rfl⟩⟩
theorem Sl.blk_lt (h : Sl w sz v n xs) {g : Nat} (hg : sblk v = some g) : g < w.heap.size := by
  rcases h.form with ⟨rfl, _⟩ | ⟨g', o, cap, cur, T, rfl, hh, _⟩
  · cases hg
  · injection hg with hg
    subst hg
    exact (Array.getElem?_eq_some_iff.1 hh).1
theorem spare_blk {g : Nat} (h : spare v = some g) : sblk v = some g := by
  unfold spare at h
  split at h
  · split at h
    · exact h
    · cases h
  · cases h
theorem Sl.kept {row : Option Nat} (h : Sl w sz v n xs) (hg : w.grownBy w' row) (hne : ∀ g, sblk v = some g → row ≠ some g) : Sl w' sz v n xs := by
  refine ⟨h.len, ?_⟩
  rcases h.form with hn | ⟨g, o, cap, cur, T, rfl, hh, r⟩
  · exact .inl hn
  · refine .inr ⟨g, o, cap, cur, T, rfl, ?_, r⟩
    exact (hg.block g (Array.getElem?_eq_some_iff.1 hh).1 (fun e => hne g rfl e.symm)).trans hh
theorem Sl.of_block (h : Sl w sz v n xs) (hb : ∀ g, sblk v = some g → w'.heap[g]? = w.heap[g]?) : Sl w' sz v n xs := by
  refine ⟨h.len, ?_⟩
  rcases h.form with hn | ⟨g, o, cap, cur, T, rfl, hh, r⟩
  · exact .inl hn
  · exact .inr ⟨g, o, cap, cur, T, rfl, (hb g rfl).trans hh, r⟩
/-- The slice as its three parts. -/
theorem Sl.parts (h : Sl w sz v n xs) : ∃ A cap, v = .slice A n cap ∧ n ≤ cap := by
  rcases h.form with ⟨rfl, rfl⟩ | ⟨g, o, cap, cur, T, rfl, _, hc, _⟩
  · exact ⟨_, _, rfl, Nat.le_refl _⟩
  · exact ⟨_, _, rfl, hc⟩
theorem Sl.cell (h : Sl w sz v n xs) {j : Nat} (hj : j < n * sz) : ∃ (g o cap : Nat), v = .slice (some ⟨g, o, none⟩) n cap ∧ n ≤ cap ∧ g < w.heap.size ∧ sblk v = some g ∧ w.cell? ⟨g, o + j, none⟩ = xs[j]? ∧ w.frozen? ⟨g, o + j, none⟩ = false := by
  rcases h.form with ⟨rfl, rfl⟩ | ⟨g, o, cap, cur, T, rfl, hh, hc, hs, hx⟩
  · simp at hj
  · refine ⟨g, o, cap, rfl, hc, (Array.getElem?_eq_some_iff.1 hh).1, rfl, ?_, by simp [World.frozen?, hh]⟩
    rw [← hx, List.getElem?_take, if_pos hj, List.getElem?_drop]
    simp [World.cell?, hh]
theorem Sl.cells_at (h : Sl w sz v n xs) {g o cap : Nat} (hv : v = .slice (some ⟨g, o, none⟩) n cap) : ∀ j u, xs[j]? = some u → w.cell? ((⟨g, o, none⟩ : Addr).add j) = some u := by
  intro j u hu
  have hj : j < n * sz := by
    have := (List.getElem?_eq_some_iff.1 hu).1
    rw [h.len] at this; exact this
  obtain ⟨g', o', cap', hv', _, _, _, hc, _⟩ := h.cell hj
  rw [hv] at hv'
  injection hv' with h1 h2 h3
  injection h1 with h1
  injection h1 with e1 e2
  subst e1; subst e2
  have hadd : (⟨g, o, none⟩ : Addr).add j = ⟨g, o + j, none⟩ := by unfold Addr.add; split <;> simp_all
  rw [hadd, hc, hu]

/-- s[k:], as the model makes it. -/
theorem Sl.tail {A : Option Addr} {cap k : Nat} (h : Sl w sz (.slice A n cap) n xs) (hk : k ≤ n) : Sl w sz (.slice (if cap = k then A else A.map (·.add (k * sz))) (n - k) (cap - k)) (n - k) (xs.drop (k * sz)) := by
  refine ⟨by rw [List.length_drop, h.len, Nat.sub_mul], ?_⟩
  rcases h.form with ⟨hv, rfl⟩ | ⟨g, o, cap', cur, T, hv, hh, hc, hs, hx⟩
  · injection hv with h1 _ h3
    subst h1; subst h3
    refine .inl ⟨?_, by omega⟩
    obtain rfl : k = 0 := by omega
    rfl
  · injection hv with h1 _ h3
    subst h1; subst h3
    by_cases hck : cap = k
    · rw [if_pos hck]
      subst hck
      obtain rfl : n = cap := by omega
      refine .inr ⟨g, o, n - n, cur, T, rfl, hh, by omega, by simp; have := Nat.le_of_add_right_le hs; omega, ?_⟩
      rw [Nat.sub_self]
      simp [h.len]
    · rw [if_neg hck]
      have hadd : (⟨g, o, none⟩ : Addr).add (k * sz) = ⟨g, o + k * sz, none⟩ := by unfold Addr.add; split <;> simp_all
      refine .inr ⟨g, o + k * sz, cap - k, cur, T, ?_, hh, by omega, ?_, ?_⟩
      · simp only [Option.map_some, hadd]
      · have e := Nat.sub_mul cap k sz
        have e2 : k * sz ≤ cap * sz := Nat.mul_le_mul_right _ (by omega)
        omega
      · rw [← hx, ← List.drop_drop, List.drop_take, Nat.sub_mul]
/-- s[:k:k2], as the model makes it. -/
theorem Sl.front {A : Option Addr} {cap k c : Nat} (h : Sl w sz (.slice A n cap) n xs) (hk : k ≤ n) (hkc : k ≤ c) (hc : c ≤ cap) : Sl w sz (.slice A k c) k (xs.take (k * sz)) := by
  have hkn : k * sz ≤ n * sz := Nat.mul_le_mul_right _ hk
  refine ⟨by rw [List.length_take, h.len]; omega, ?_⟩
  rcases h.form with ⟨hv, rfl⟩ | ⟨g, o, cap', cur, T, hv, hh, hcc, hs, hx⟩
  · injection hv with h1 _ h3
    subst h1; subst h3
    obtain rfl : k = 0 := by omega
    obtain rfl : c = 0 := by omega
    exact .inl ⟨rfl, rfl⟩
  · injection hv with h1 _ h3
    subst h1; subst h3
    have e2 : c * sz ≤ cap * sz := Nat.mul_le_mul_right _ hc
    refine .inr ⟨g, o, c, cur, T, rfl, hh, hkc, by omega, ?_⟩
    rw [← hx, List.take_take, Nat.min_eq_left hkn]
end

section
variable {P : Program} (w : World)

theorem run_append_none (t ty e : TypeId) (i : TypeInfo) (ht : P.underlying t = some (.slice e)) (hi : P.info? e = some i)
    (A : Option Addr) (n cap : Nat) (hn : n ≤ cap) (B : Option Addr) (c : Nat) (hB : B = none ∨ ∃ b, B = some b) : (Builtin.append_ #[t, t] ty #[.slice A n cap, .slice B 0 c]).run P w = .ok (.slice A n cap) w := by
  rcases hB with rfl | ⟨b, rfl⟩ <;> cases A <;>
    simp [Builtin.append_, run_underlying ht, sizeOf, typeInfo, hi, Builtin.lenOf, Builtin.firstCells, loadCells, loadCellsFrom, hn, storeCells]

/-- append([]T{}, u...): a block of its own. -/
theorem run_append_clone (t ty e : TypeId) (i : TypeInfo) (z : Value) (sz bytes : Nat) (ht : P.underlying t = some (.slice e)) (hi : P.info? e = some i) (hz : i.zero = some z)
    (hsize : i.size = sz) (hby : i.bytes = bytes) (hzs : z.cells.size = sz)
    {u : Value} {g0 o0 m : Nat} {ys : List Value} (hu : Sl w sz u m ys) (hm : 0 < m)
    (h63 : m ≤ 9223372036854775807) (hbytes : m * bytes ≤ 140737488355328) :
    ∃ cap cur w', (Builtin.append_ #[t, t] ty #[.slice (some ⟨g0, o0, none⟩) 0 0, u]).run P w = .ok (.slice (some ⟨w.heap.size, 0, none⟩) m cap) w' ∧ Sl w' sz (.slice (some ⟨w.heap.size, 0, none⟩) m cap) m ys ∧
      w'.heap[w.heap.size]? = some (.cells cur e (0, 0)) ∧ w.grownBy w' none := by
  subst hsize; subst hby
  rcases hu.form with ⟨_, h0⟩ | ⟨g', o', c, cur', T', rfl, hh', hc', hs', hx'⟩
  · omega
  have hnews := hu.cells_at rfl
  have hge := grownCap_ge w m 0 e
  have hr := run_append_grow (P := P) w t ty e i z ht hi hz ⟨g0, o0, none⟩ 0 0 [] (by simp) (fun j u h => by cases h) ⟨g', o', none⟩ m c ys hu.len hnews (by omega) (by omega) (growslice_fits (by omega) (by simpa using hbytes))
  simp only [Nat.zero_add, Array.empty_append] at hr
  refine ⟨_, _, _, hr, ⟨hu.len, .inr ⟨w.heap.size, 0, _, _, e, rfl, heap_alloc_new w.drew _, hge, ?_, ?_⟩⟩, heap_alloc_new w.drew _, ⟨rfl, rfl, rfl, by simp, fun k hk _ => Below.heap_alloc w.drew _ k hk⟩⟩
  · simp only [Array.size_append, List.size_toArray, size_zeroCells, hzs, hu.len]
    rw [← Nat.add_mul, show m + (grownCap w m 0 e - m) = grownCap w m 0 e by omega]
    simp
  · simp only [Array.toList_append, List.drop_zero]
    rw [← hu.len]
    exact List.take_left


/-- append: whatever the two slices are. Only the block into which there is room may turn. -/
theorem run_append_sl (t ty e : TypeId) (i : TypeInfo) (z : Value) (sz bytes : Nat) (ht : P.underlying t = some (.slice e)) (hi : P.info? e = some i) (hz : i.zero = some z)
    (hsize : i.size = sz) (hby : i.bytes = bytes) (hzs : z.cells.size = sz)
    {v u : Value} {n m : Nat} {xs ys : List Value} (hv : Sl w sz v n xs) (hu : Sl w sz u m ys) (h1 : ∀ y ∈ ys, y.oneCell' = true)
    (h63 : n + m ≤ 9223372036854775807) (hbytes : (n + m) * bytes ≤ 140737488355328) :
    ∃ v' w', (Builtin.append_ #[t, t] ty #[v, u]).run P w = .ok v' w' ∧ Sl w' sz v' (n + m) (xs ++ ys) ∧ w.grownBy w' (spare v) ∧ (sblk v' = sblk v ∨ sblk v' = some w.heap.size) ∧ (spare v' = none ∨ spare v' = spare v ∨ spare v' = some w.heap.size) := by
  subst hsize; subst hby
  have hlen : (xs ++ ys).length = (n + m) * i.size := by rw [List.length_append, hv.len, hu.len, Nat.add_mul]
  rcases Nat.eq_zero_or_pos m with hm0 | hm0
  · -- nothing is appended
    subst hm0
    have hy : ys = [] := List.eq_nil_of_length_eq_zero (by simpa using hu.len)
    subst hy
    obtain ⟨A, cap, rfl, hc⟩ := hv.parts
    obtain ⟨B, c, rfl, _⟩ := hu.parts
    exact ⟨_, w, run_append_none w t ty e i ht hi A n cap hc B c (by cases B; exact .inl rfl; exact .inr ⟨_, rfl⟩), by simpa using hv, ⟨rfl, rfl, rfl, Nat.le_refl _, fun _ _ _ => rfl⟩, .inl rfl, .inr (.inl rfl)⟩
  rcases hu.form with ⟨_, h0⟩ | ⟨g', o', c, cur', T', rfl, hh', hc', hs', hx'⟩
  · omega
  have hnews := hu.cells_at rfl
  have hsmall : n + m ≤ maxLen := by unfold maxLen; omega
  have grown : ∀ (old : Nat), old < n + m →
      Sl (w.drew.alloc (.cells (xs.toArray ++ ys.toArray ++ Builtin.zeroCells z.cells (grownCap w (n + m) old e - (n + m))) e)) i.size
        (.slice (some ⟨w.heap.size, 0, none⟩) (n + m) (grownCap w (n + m) old e)) (n + m) (xs ++ ys) ∧
      w.grownBy (w.drew.alloc (.cells (xs.toArray ++ ys.toArray ++ Builtin.zeroCells z.cells (grownCap w (n + m) old e - (n + m))) e)) (spare v) := by
    intro old ho
    have hge := grownCap_ge w (n + m) old e
    refine ⟨⟨hlen, .inr ⟨w.heap.size, 0, _, _, e, rfl, heap_alloc_new w.drew _, hge, ?_, ?_⟩⟩, ⟨rfl, rfl, rfl, by simp, fun k hk _ => Below.heap_alloc w.drew _ k hk⟩⟩
    · simp only [Array.size_append, List.size_toArray, size_zeroCells, hzs, hv.len, hu.len, ← Nat.add_mul]
      rw [show n + m + (grownCap w (n + m) old e - (n + m)) = grownCap w (n + m) old e by omega]
      omega
    · simp only [Array.toList_append, List.append_assoc, List.drop_zero]
      rw [← List.append_assoc, ← hlen]
      exact List.take_left
  have spnew : ∀ c, spare (.slice (some ⟨w.heap.size, 0, none⟩) (n + m) c) = none ∨ spare (.slice (some ⟨w.heap.size, 0, none⟩) (n + m) c) = some w.heap.size := by
    intro c; unfold spare; dsimp only; split
    · exact .inr rfl
    · exact .inl rfl
  rcases hv.form with ⟨rfl, rfl⟩ | ⟨g, o, cap, cur, T, rfl, hg, hnc, hcs, htake⟩
  · have hx : xs = [] := List.eq_nil_of_length_eq_zero (by simpa using hv.len)
    subst hx
    have hr := run_append_nil (P := P) w t ty e i z ht hi hz ⟨g', o', none⟩ m c ys hu.len hnews (by omega) (by omega) (by have hb := hbytes; simp only [Nat.zero_add] at hb; omega)
    have hgr := grown 0 (by omega)
    simp only [Nat.zero_add, List.nil_append, Array.empty_append] at hgr spnew ⊢
    exact ⟨_, _, hr, hgr.1, hgr.2, .inr rfl, by rcases spnew (grownCap w m 0 e) with h | h; exact .inl h; exact .inr (.inr h)⟩
  · by_cases hroom : n + m ≤ cap
    · have hfit : o + n * i.size + ys.length ≤ cur.size := by
        rw [hu.len, Nat.add_assoc, ← Nat.add_mul]
        have := Nat.mul_le_mul_right i.size hroom
        omega
      have hf := run_firstCells_some (P := P) w i.size m ⟨g', o', none⟩ m c ys hu.len hnews
      have hst := run_storeCells_at P g (o + n * i.size) T ys 0 cur w hg (by simpa using hfit) h1
      have hadd : (⟨g, o, none⟩ : Addr).add (n * i.size) = ⟨g, o + n * i.size, none⟩ := by unfold Addr.add; split <;> simp_all
      simp only [Nat.add_zero] at hst
      have hr : (Builtin.append_ #[t, t] ty #[.slice (some ⟨g, o, none⟩) n cap, .slice (some ⟨g', o', none⟩) m c]).run P w =
          .ok (.slice (some ⟨g, o, none⟩) (n + m) cap) (w.setRow g (cur.toList.take (o + n * i.size) ++ ys ++ cur.toList.drop (o + n * i.size + ys.length)).toArray) := by
        simp [Builtin.append_, run_underlying ht, sizeOf, typeInfo, hi, Builtin.lenOf, hroom, hf, hadd, hst]
      have hsp : spare (.slice (some ⟨g, o, none⟩) n cap) = some g := by unfold spare; dsimp only; rw [if_pos (by omega)]
      refine ⟨_, _, hr, ⟨hlen, .inr ⟨g, o, cap, _, T, rfl, setRow_heap w g cur _ T _ hg, hroom, ?_, ?_⟩⟩, ?_, .inl rfl, ?_⟩
      · simp only [List.size_toArray, List.length_append, List.length_take, List.length_drop, Array.length_toList]
        omega
      · have e1 : (cur.toList.take (o + n * i.size)).drop o = xs := by
          rw [List.drop_take, Nat.add_sub_cancel_left]; exact htake
        have e2 : o ≤ (cur.toList.take (o + n * i.size)).length := by simp; omega
        simp only [List.append_assoc]
        rw [List.drop_append_of_le_length e2, e1, ← List.append_assoc, ← hlen]
        exact List.take_left
      · rw [hsp]
        exact ⟨rfl, rfl, rfl, by simp, fun k _ hk => setRow_other w g k _ (fun e => hk (by rw [e]))⟩
      · rw [hsp]
        unfold spare
        dsimp only
        split
        · exact .inr (.inl rfl)
        · exact .inl rfl
    · have hr := run_append_grow (P := P) w t ty e i z ht hi hz ⟨g, o, none⟩ n cap xs hv.len (hv.cells_at rfl) ⟨g', o', none⟩ m c ys hu.len hnews (by omega) (by omega) (growslice_fits (by omega) hbytes)
      have hgr := grown cap (by omega)
      exact ⟨_, _, hr, hgr.1, hgr.2, .inr rfl, by rcases spnew (grownCap w (n + m) cap e) with h | h; exact .inl h; exact .inr (.inr h)⟩
end
section
variable {P : Program} {w : World}
theorem wp_append_sl {o : Oper} {a : Act} {K : Act → World → Prop} {Q : Exit → Act → World → Prop} (s x : Operand) (t : TypeId)
    (ho : o.op = .call { callee := .builtin .append, args := #[s, x], argTypes := #[t, t] })
    (e : TypeId) (i : TypeInfo) (z : Value) (sz bytes : Nat) (ht : P.underlying t = some (.slice e)) (hi : P.info? e = some i) (hz : i.zero = some z)
    (hsize : i.size = sz) (hby : i.bytes = bytes) (hzs : z.cells.size = sz)
    {v u : Value} {n m : Nat} {xs ys : List Value} (hs : a.eval s = v) (hx : a.eval x = u) (hv : Sl w sz v n xs) (hu : Sl w sz u m ys) (h1 : ∀ y ∈ ys, y.oneCell' = true)
    (h63 : n + m ≤ 9223372036854775807) (hbytes : (n + m) * bytes ≤ 140737488355328)
    (h : ∀ v' w', Sl w' sz v' (n + m) (xs ++ ys) → w.grownBy w' (spare v) → (sblk v' = sblk v ∨ sblk v' = some w.heap.size) → (spare v' = none ∨ spare v' = spare v ∨ spare v' = some w.heap.size) → K (a.put o.dst v') w') : o.wp P a w K Q := by
  obtain ⟨v', w', hr, h2, h3, h4, h5⟩ := run_append_sl (P := P) w t o.type e i z sz bytes ht hi hz hsize hby hzs hv hu h1 h63 hbytes
  unfold Oper.wp execOp
  simp only [ho, resolve, invoke, builtin, Sem.run_bind, Sem.run_pure, Result.andThen_ok, List.map_toArray, List.map_cons, List.map_nil, hs, hx, hr]
  exact h v' w' h2 h3 h4 h5
theorem wpList_append_sl {ops : Array Oper} {rest : List Oper} {o : Oper} {a : Act} {Q : Exit → Act → World → Prop} (hgd : o.guard = none) (s x : Operand) (t : TypeId)
    (ho : o.op = .call { callee := .builtin .append, args := #[s, x], argTypes := #[t, t] })
    (e : TypeId) (i : TypeInfo) (z : Value) (sz bytes : Nat) (ht : P.underlying t = some (.slice e)) (hi : P.info? e = some i) (hz : i.zero = some z)
    (hsize : i.size = sz) (hby : i.bytes = bytes) (hzs : z.cells.size = sz)
    {v u : Value} {n m : Nat} {xs ys : List Value} (hs : a.eval s = v) (hx : a.eval x = u) (hv : Sl w sz v n xs) (hu : Sl w sz u m ys) (h1 : ∀ y ∈ ys, y.oneCell' = true)
    (h63 : n + m ≤ 9223372036854775807) (hbytes : (n + m) * bytes ≤ 140737488355328)
    (h : ∀ v' w', Sl w' sz v' (n + m) (xs ++ ys) → w.grownBy w' (spare v) → (sblk v' = sblk v ∨ sblk v' = some w.heap.size) → (spare v' = none ∨ spare v' = spare v ∨ spare v' = some w.heap.size) → wpList P ops Q rest (a.put o.dst v') w') : wpList P ops Q (o :: rest) a w :=
  wpList_plain hgd fun _ hK => wp_append_sl s x t ho e i z sz bytes ht hi hz hsize hby hzs hs hx hv hu h1 h63 hbytes fun v' w' h2 h3 h4 h5 => hK _ _ (h v' w' h2 h3 h4 h5)
end
end Go.Proofs.YtblbgalpkodibaaDoor
