/- Layer 20: the front in memory: its block, and the queue's cells in a slice of its own. -/
import Derived.Test.YtblbgalpkodibaaDoorF0
import Derived.Test.YtblbgalpkodibaaDoorTools
import Derived.Test.YtblbgalpkodibaaDoorOwnB
import Derived.Test.YtblbgalpkodibaaDoorRegion
namespace Go.Proofs.YtblbgalpkodibaaDoor
open Go.RowKit

def itl (x : It) : List Value := [.int .u64 x.pc, .int .u32 x.bits, .int .u32 x.inst, .int .i64 x.size, .int .u64 x.cause, .int .u64 x.tval, .int .u64 x.nxt, .int .u64 (x.m 112), .int .u64 (x.m 113), .int .u64 (x.m 114), .int .u64 (x.m 115), .int .i64 (x.m 116), .int .u64 (x.m 117)]
def itsC (l : List It) : List Value := l.flatMap itl
theorem itl_len (x : It) : (itl x).length = 13 := rfl
theorem itsC_len (l : List It) : (itsC l).length = l.length * 13 := by
  unfold itsC
  induction l with
  | nil => rfl
  | cons e l ih => rw [List.flatMap_cons, List.length_append, ih, itl_len, List.length_cons]; omega
theorem itsC_app (l m : List It) : itsC (l ++ m) = itsC l ++ itsC m := by unfold itsC; rw [List.flatMap_append]
theorem itsC_cons (e : It) (l : List It) : itsC (e :: l) = itl e ++ itsC l := rfl
theorem itsC_one (e : It) : itsC [e] = itl e := by unfold itsC; simp
theorem itsC_snoc (l : List It) (e : It) : itsC (l ++ [e]) = itsC l ++ itl e := by rw [itsC_app, itsC_one]
theorem itsC_get {e : It} {j : Nat} (hj : j < 13) : ∀ {l : List It} {k : Nat}, l[k]? = some e → (itsC l)[k * 13 + j]? = (itl e)[j]? := by
  intro l
  induction l with
  | nil => intro k h; simp at h
  | cons f l ih =>
    intro k h
    rw [itsC_cons]
    cases k with
    | zero =>
      simp at h
      subst h
      rw [List.getElem?_append_left (by rw [itl_len]; omega), Nat.zero_mul, Nat.zero_add]
    | succ k =>
      rw [List.getElem?_append_right (by rw [itl_len]; omega), itl_len, show (k + 1) * 13 + j - 13 = k * 13 + j by omega]
      exact ih (by simpa using h)
theorem itl_cell (x : It) : ∀ y ∈ itl x, y.oneCell' = true := by
  intro y h
  unfold itl at h
  simp only [List.mem_cons, List.mem_nil_iff, or_false] at h
  rcases h with rfl | rfl | rfl | rfl | rfl | rfl | rfl | rfl | rfl | rfl | rfl | rfl | rfl <;> rfl
theorem itsC_cell (l : List It) : ∀ y ∈ itsC l, y.oneCell' = true := by
  intro y hy
  unfold itsC at hy
  obtain ⟨e, _, h⟩ := List.mem_flatMap.1 hy
  exact itl_cell e y h
theorem itsC_drop (e : It) (l : List It) : (itsC (e :: l)).drop 13 = itsC l := by
  rw [itsC_cons, List.drop_append_of_le_length (by rw [itl_len]; omega), show (itl e).drop 13 = [] from rfl]
  rfl
def frv (g : Nat) (F : Fr) (v : Value) : List Value := [.pointer (some ⟨g, 0, none⟩), .int .u64 F.at_, .int .u16 F.first, .bool F.some, .bool F.stop, v]
def HP.fr (b g : Nat) (F : Fr) : HP := HP.any fun v : Value => HP.und (FI F) ((HP.blk b (frv g F v).toArray 72).star (HP.slw v 13 F.q.length (itsC F.q)))
/-- The front's block and its queue. -/
def FB (b g : Nat) (F : Fr) (v : Value) (L : List HP) : List HP := HP.blk b (frv g F v).toArray 72 :: HP.slw v 13 F.q.length (itsC F.q) :: L
section
variable {w0 w w' : World} {L : List HP} {b g : Nat} {F : Fr} {c : St}
theorem Heap.fr : Heap w0 w (HP.fr b g F :: L) ↔ ∃ v, FI F ∧ Heap w0 w (FB b g F v L) := by
  simp only [HP.fr, Heap.any, Heap.und, Heap.star, FB]
theorem Heap.frI (h : Heap w0 w (HP.fr b g F :: L)) : FI F := (Heap.fr.1 h).choose_spec.1
/-- The front's cells. -/
structure FC (w : World) (b g : Nat) (F : Fr) (A : Option Addr) (cap : Nat) : Prop where
  blk : w.heap[b]? = some (.cells (frv g F (.slice A F.q.length cap)).toArray 72 (0, 0))
  lt : b < w.heap.size
  sl : Sl w 13 (.slice A F.q.length cap) F.q.length (itsC F.q)
  I : FI F
theorem Heap.fc (h : Heap w0 w (HP.fr b g F :: L)) : ∃ A cap, FC w b g F A cap ∧ Heap w0 w (FB b g F (.slice A F.q.length cap) L) := by
  obtain ⟨v, hI, hh⟩ := Heap.fr.1 h
  unfold FB at hh
  obtain ⟨A, cap, rfl, _⟩ := hh.f2.slw.parts
  exact ⟨A, cap, ⟨hh.heap, lt_of_heap' hh.heap, hh.f2.slw, hI⟩, hh⟩
theorem FC.gn {A : Option Addr} {cap : Nat} (h : FC w b g F A cap) (hg : GN w w') : FC w' b g F A cap := ⟨hg.heap h.blk, lt_of_heap' (hg.heap h.blk), h.sl.gn hg, h.I⟩
theorem FC.cells {A : Option Addr} {cap : Nat} (h : FC w b g F A cap) :
    w.cell? ⟨b, 0, none⟩ = some (.pointer (some ⟨g, 0, none⟩)) ∧ w.cell? ⟨b, 1, none⟩ = some (.int .u64 F.at_) ∧ w.cell? ⟨b, 2, none⟩ = some (.int .u16 F.first) ∧ w.cell? ⟨b, 3, none⟩ = some (.bool F.some) ∧ w.cell? ⟨b, 4, none⟩ = some (.bool F.stop) ∧ w.cell? ⟨b, 5, none⟩ = some (.slice A F.q.length cap) :=
  ⟨(cell_blk h.blk 0).1, (cell_blk h.blk 1).1, (cell_blk h.blk 2).1, (cell_blk h.blk 3).1, (cell_blk h.blk 4).1, (cell_blk h.blk 5).1⟩
theorem FC.frozen {A : Option Addr} {cap : Nat} (h : FC w b g F A cap) (j : Nat) : w.frozen? ⟨b, j, none⟩ = false := (cell_blk h.blk j).2
theorem and16_3 (h : Nat) : and16 h 3 = h % 4 := by
  unfold and16
  have : h &&& 3 = h % 4 := Nat.and_two_pow_sub_one_eq_mod h 2
  rw [this]; omega

/-! ### New, Want, Items -/
set_option maxRecDepth 100000 in
set_option maxHeartbeats 1000000 in
theorem new_f (h : Heap w0 w L) (pc : Int) (p0 : 0 ≤ pc) (p1 : pc < 18446744073709551616) :
    Calls Tryd.prog 9 #[.int .u64 pc, .pointer (some ⟨g, 0, none⟩)] w fun r w' => ∃ b, r = .returned (.pointer (some ⟨b, 0, none⟩)) ∧ Heap w0 w' (HP.fr b g (newF pc) :: L) := by
  have e1 := u64_not1 pc p0 p1
  have J1 := (h.noneS (sz := 13)).new (frv g (newF pc) (.slice none 0 0)).toArray 72
  have hfin := Heap.fr.2 ⟨_, FI.new ⟨p0, p1⟩, J1⟩
  unfold frv newF evn at hfin
  go_enter Tryd.func9, Tryd.ntmps9
  go_wp2
  go_ret
  exact ⟨_, rfl, hfin⟩
set_option maxRecDepth 100000 in
set_option maxHeartbeats 1000000 in
/-- Want: what it tells; nothing turns. -/
theorem want_c {A : Option Addr} {cap : Nat} (h : FC w b g F A cap) :
    Calls Tryd.prog 11 #[.pointer (some ⟨b, 0, none⟩)] w fun r w' => r = .returned (.tuple #[.int .u64 (bif canF F then atF F else 0), .bool (canF F)]) ∧ GN w w' := by
  obtain ⟨d0, d1, d2, d3, d4, d5⟩ := h.cells
  have hlt := h.lt
  have hat := h.I.at_
  have hlen := h.I.len
  clear h
  obtain ⟨at_, first, sm, stop, q⟩ := F
  simp only at d0 d1 d2 d3 d4 d5 hat hlen
  unfold canF atF
  simp only
  obtain ⟨n, hn⟩ : ∃ n, q.length = n := ⟨_, rfl⟩
  rw [hn] at d5 hlen ⊢
  clear hn
  have e1 : IntKind.u64.wrap (at_ + 2) = w64 (at_ + 2) := IntKind.wrap_u64 _
  go_enter Tryd.func11, Tryd.ntmps11
  by_cases hq : n < 8
  · have z : decide (n < 8) = true := decide_eq_true hq
    have hq' : ¬ (8 ≤ n) := by omega
    rw [z]
    cases stop with
    | true =>
      go_wp2
      all_goals go_ret2
      all_goals exact ⟨rfl, GN.refl w⟩
    | false =>
      cases sm with
      | true =>
        go_wp2
        all_goals go_ret2
        all_goals exact ⟨by rw [← e1]; rfl, GN.refl w⟩
      | false =>
        go_wp2
        all_goals go_ret2
        all_goals exact ⟨rfl, GN.refl w⟩
  · have z : decide (n < 8) = false := decide_eq_false hq
    have hq' : 8 ≤ n := by omega
    rw [z]
    cases stop with
    | true =>
      go_wp2
      all_goals go_ret2
      all_goals exact ⟨rfl, GN.refl w⟩
    | false =>
      go_wp2
      all_goals go_ret2
      all_goals exact ⟨rfl, GN.refl w⟩
theorem want_f (h : Heap w0 w (HP.fr b g F :: L)) :
    Calls Tryd.prog 11 #[.pointer (some ⟨b, 0, none⟩)] w fun r w' => r = .returned (.tuple #[.int .u64 (bif canF F then atF F else 0), .bool (canF F)]) ∧ Heap w0 w' (HP.fr b g F :: L) := by
  obtain ⟨A, cap, hc, _⟩ := h.fc
  exact (want_c hc).mono fun r w' ⟨hr, hg⟩ => ⟨hr, h.grown hg⟩
/-- Items: the front's pointer is boxed, the closure has the box. -/
theorem items_f (w : World) (b : Nat) :
    Calls Tryd.prog 16 #[.pointer (some ⟨b, 0, none⟩)] w fun r w' => r = .returned (.func (.func 37) #[] #[.pointer (some ⟨w.heap.size, 0, none⟩)]) ∧ w' = w.alloc (.cells #[.pointer (some ⟨b, 0, none⟩)] 25) := by
  go_enter Tryd.func16, Tryd.ntmps16
  go_wp2
  go_ret
  exact ⟨rfl, rfl⟩
end
end Go.Proofs.YtblbgalpkodibaaDoor
