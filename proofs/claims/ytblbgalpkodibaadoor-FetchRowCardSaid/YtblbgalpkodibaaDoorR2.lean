/- Layer 4: the document's lists. -/
import Derived.Test.YtblbgalpkodibaaDoorR1
import Derived.Test.YtblbgalpkodibaaDoorTools2
namespace Go.Proofs.YtblbgalpkodibaaDoor
open Go.RowKit

def iv (l : List Nat) : List Value := l.map fun p : Nat => .int .i64 (p : Int)
theorem iv_snoc (l : List Nat) (p : Nat) : iv (l ++ [p]) = iv l ++ [.int .i64 (p : Int)] := by simp [iv]
/-- From a number down, so many. -/
def dnl (hi : Int) (n : Nat) : List Nat := (List.range n).map fun i : Nat => (hi - (i : Int)).toNat
theorem dnl_succ {hi : Int} {j p : Nat} (h : hi - j = p) : dnl hi (j + 1) = dnl hi j ++ [p] := by
  unfold dnl
  rw [List.range_succ, List.map_append]
  simp
  omega
def IntsAt (w : World) (v : Value) (l : List Nat) : Prop := ∃ g o cap, v = .slice (some ⟨g, o, none⟩) l.length cap ∧ ∀ (j p : Nat), l[j]? = some p → w.cell? ⟨g, o + j, none⟩ = some (.int .i64 (p : Int))
theorem IntsAt.gn {w w' : World} {v : Value} {l : List Nat} (h : IntsAt w v l) (hg : GN w w') : IntsAt w' v l := by
  obtain ⟨g, o, cap, h1, h2⟩ := h
  exact ⟨g, o, cap, h1, fun j p hj => cell_GN hg (h2 j p hj)⟩
theorem Sl.one (w : World) (T : TypeId) (x : Value) {k : Nat} (hk : k = w.heap.size) : Sl (w.alloc (.cells #[x] T)) 1 (.slice (some ⟨k, 0, none⟩) 1 1) 1 [x] := by
  subst hk
  exact ⟨rfl, .inr ⟨w.heap.size, 0, 1, _, T, rfl, heap_new' w _, Nat.le_refl _, by simp, by simp⟩⟩
theorem rinfo3 : (Tryd.prog.info? 3).map (fun i => (i.zero, i.size, i.bytes)) = some (some (.int .i64 0), 1, 8) := by kernel_rfl
theorem rinfo3p : ∃ i, Tryd.prog.info? 3 = some i ∧ i.zero = some (.int .i64 0) ∧ i.size = 1 ∧ i.bytes = 8 := by
  have h := rinfo3
  cases hi : Tryd.prog.info? 3 with
  | none => rw [hi] at h; cases h
  | some i =>
    rw [hi] at h
    simp only [Option.map_some, Option.some.injEq, Prod.mk.injEq] at h
    exact ⟨i, rfl, h.1, h.2.1, h.2.2⟩
theorem ints_of_heap {w0 w : World} {v : Value} {l : List Nat} (hne : l ≠ []) (h : Heap w0 w [HP.slw v 1 l.length (iv l)]) : IntsAt w v l := by
  have hsl := h.slw
  have hpos : 0 < l.length := List.length_pos_iff.2 hne
  obtain ⟨g, o, cap, hv, _, _, _, _, _⟩ := hsl.cell (j := 0) (by omega)
  refine ⟨g, o, cap, hv, fun j p hj => ?_⟩
  have hjl := (List.getElem?_eq_some_iff.1 hj).1
  obtain ⟨g', o', cap', hv', _, _, _, hc, _⟩ := hsl.cell (j := j) (by omega)
  rw [hv] at hv'
  injection hv' with a _ _
  injection a with a
  injection a with a1 a2
  subst a1 a2
  rw [hc]
  simp [iv, hj]
set_option maxRecDepth 100000 in
set_option maxHeartbeats 2000000 in
theorem rows_any (hi lo hi2 lo2 : Int) (lim lim2 : Nat) (l0 : 0 ≤ lo) (h31 : hi < 32) (hl : (lim : Int) = hi + 1 - lo) (hlp : 0 < lim) (m0 : 0 ≤ lo2) (m31 : hi2 < 32) (hm0 : -1 ≤ hi2) (hm : (lim2 : Int) = hi2 + 1 - lo2) (hm2 : 0 < lim2 → 0 ≤ hi2) (w : World) :
    Calls Tryd.prog 50 #[.int .i64 hi, .int .i64 lo, .int .i64 hi2, .int .i64 lo2] w fun e w' => ∃ v, e = .returned v ∧ IntsAt w' v (dnl hi lim ++ dnl hi2 lim2) ∧ GN w w' := by
  have hne : dnl hi lim ++ dnl hi2 lim2 ≠ [] := by
    intro e
    have := congrArg List.length e
    simp [dnl] at this
    omega
  obtain ⟨i0, hi0, hz0, hz1, hz2⟩ := rinfo3p
  go_enter Tryd.func50, Tryd.ntmps50
  go_wp2
  have hst := (Heap.nil w).emptyW (sz := 1) 3
  go_loopw [9, 10] (fun v i wr => ∃ j : Nat, i = .int .i64 ((hi : Int) - j) ∧ j ≤ lim ∧ Heap w wr [HP.slw v 1 ((dnl hi j)).length (iv (dnl hi j))]) (fun _ i _ => (intOf i + 1 - lo).toNat)
  case atStart => exact ⟨0, by simp, Nat.zero_le _, hst⟩
  case round =>
    obtain ⟨j, rfl, hj, hJ⟩ := hrel
    clear hst
    obtain ⟨A, cap, rfl, _⟩ := hJ.slw.parts
    by_cases hjl : j < lim
    · have k0 : (lo : Int) ≤ (hi : Int) - j := by omega
      skip
      obtain ⟨p, hp⟩ : ∃ p : Nat, (hi : Int) - j = p := ⟨((hi : Int) - j).toNat, by omega⟩
      have hl : (dnl hi (j + 1)) = (dnl hi j) ++ [p] := by
        exact dnl_succ (by omega)
      have Hl := hide hl
      clear hl
      have hlen : ((dnl hi j)).length ≤ 64 := by simp [dnl]; omega
      rw [hp] at k0 ⊢
      have hone : ∀ y ∈ [Value.int .i64 (p : Int)], y.oneCell' = true := by simp [Value.oneCell']
      go_wp2_with (at_builtin; refine wpList_append_sl rfl _ _ 84 rfl 3 i0 _ 1 8 Tryd.underlying84 hi0 hz0 hz1 hz2 rfl rfl rfl (hJ.slw.alloc _) (Sl.one _ 3 (.int .i64 (p : Int)) (by simp)) hone (by omega) (by omega) ?_; intro v' w' hsl hgr hblk hsp)
      obtain ⟨A', cap', rfl, _⟩ := hsl.parts
      have K2 : Heap w w' [HP.slw (.slice A' (((dnl hi j)).length + 1) cap') 1 ((dnl hi (j + 1))).length (iv (dnl hi (j + 1)))] := by
        rw [unhide Hl, iv_snoc, @List.length_append _ (dnl hi j) [p]]
        exact (hJ.alloc _).appendw hsl hgr hblk
      go_wp2
      refine ⟨⟨j + 1, by go_num, by omega, ?_⟩, by simp [intOf]; omega⟩
      exact K2
    · obtain rfl : lim = j := by omega
      have k0 : ¬ ((lo : Int) ≤ (hi : Int) - (lim : Nat)) := by omega
      go_wp2
      have hJ0 := hJ
      go_loopw [9, 11] (fun v i wr => ∃ j : Nat, i = .int .i64 ((hi2 : Int) - j) ∧ j ≤ lim2 ∧ Heap w wr [HP.slw v 1 ((dnl hi lim ++ dnl hi2 j)).length (iv (dnl hi lim ++ dnl hi2 j))]) (fun _ i _ => (intOf i + 1 - lo2).toNat)
      case atStart => exact ⟨0, by simp, Nat.zero_le _, (by rw [show dnl hi2 0 = [] from rfl, List.append_nil]; exact hJ0)⟩
      case round =>
        obtain ⟨j, rfl, hj, hJ⟩ := hrel
        clear hJ0
        obtain ⟨A, cap, rfl, _⟩ := hJ.slw.parts
        by_cases hjl : j < lim2
        · have k0 : (lo2 : Int) ≤ (hi2 : Int) - j := by omega
          have k1 : (0 : Int) ≤ hi2 := by omega
          obtain ⟨p, hp⟩ : ∃ p : Nat, (hi2 : Int) - j = p := ⟨((hi2 : Int) - j).toNat, by omega⟩
          have hl : (dnl hi lim ++ dnl hi2 (j + 1)) = (dnl hi lim ++ dnl hi2 j) ++ [p] := by
            rw [List.append_assoc]; congr 1; exact dnl_succ (by omega)
          have Hl := hide hl
          clear hl
          have hlen : ((dnl hi lim ++ dnl hi2 j)).length ≤ 64 := by simp [dnl]; omega
          rw [hp] at k0 ⊢
          have hone : ∀ y ∈ [Value.int .i64 (p : Int)], y.oneCell' = true := by simp [Value.oneCell']
          go_wp2_with (at_builtin; refine wpList_append_sl rfl _ _ 84 rfl 3 i0 _ 1 8 Tryd.underlying84 hi0 hz0 hz1 hz2 rfl rfl rfl (hJ.slw.alloc _) (Sl.one _ 3 (.int .i64 (p : Int)) (by simp)) hone (by omega) (by omega) ?_; intro v' w' hsl hgr hblk hsp)
          obtain ⟨A', cap', rfl, _⟩ := hsl.parts
          have K2 : Heap w w' [HP.slw (.slice A' (((dnl hi lim ++ dnl hi2 j)).length + 1) cap') 1 ((dnl hi lim ++ dnl hi2 (j + 1))).length (iv (dnl hi lim ++ dnl hi2 (j + 1)))] := by
            rw [unhide Hl, iv_snoc, @List.length_append _ (dnl hi lim ++ dnl hi2 j) [p]]
            exact (hJ.alloc _).appendw hsl hgr hblk
          go_wp2
          refine ⟨⟨j + 1, by go_num, by omega, ?_⟩, by simp [intOf]; omega⟩
          exact K2
        · obtain rfl : lim2 = j := by omega
          have k0 : ¬ ((lo2 : Int) ≤ (hi2 : Int) - (lim2 : Nat)) := by omega
          go_wp2
          go_ret
          refine ⟨_, rfl, ?_, gn_of_below hJ.below⟩
          have hi := ints_of_heap hne hJ
          first | exact hi | (rw [List.length_append] at hi; exact hi)

end Go.Proofs.YtblbgalpkodibaaDoor
