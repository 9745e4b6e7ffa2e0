/- Layer 15, the reference: Find. -/
import Derived.Test.YtlkkmpfhhfaioaaT12
namespace Go.Proofs.Ytlkkmpfhhfaioaa
open Go.RowKit

section
variable {w0 w : World} {L : List HP} {seed : Int} {b g1 o1 c1 g2 o2 c2 : Nat} {S : Slots} {e : E}
set_option maxRecDepth 100000 in
set_option maxHeartbeats 4000000 in
theorem findR_k (h : Heap w0 w (HP.blk b #[.slice (some ⟨g1, o1, none⟩) 8 c1, .slice (some ⟨g2, o2, none⟩) 8 c2, .int .u64 seed] 61 :: HP.slw (.slice (some ⟨g1, o1, none⟩) 8 c1) 5 8 (L40 S) :: HP.slw (.slice (some ⟨g2, o2, none⟩) 8 c2) 1 8 (L8 S) :: L)) (hI : Inv S) (sp a : Int) (a0 : 0 ≤ a) (a1 : a < 18446744073709551616) :
    Calls Try.prog 15 #[.pointer (some ⟨b, 0, none⟩), .int .u64 sp, .int .u64 a] w fun r w' => r = .returned (.tuple #[.agg ((findS S sp a).getD E.zero).cs.toArray, .bool (findS S sp a).isSome]) ∧ GN w w' := by
  have H0 := hide h
  have hlt0 := lt_of_heap' h.heap
  clear h
  go_enter Try.func15, Try.ntmps15
  go_wp2
  go_loopw [8] (fun i wr => ∃ k : Nat, i = .int .i64 k ∧ k ≤ 8 ∧ (∀ j, j < k → hit S sp a j = none) ∧ GN w wr ∧ w.heap.size < wr.heap.size ∧ wr.heap[w.heap.size]? = some (.cells #[.int .u64 0, .int .i64 0, .int .u64 0, .bool false, .int .u64 0] 36)) (fun i _ => 8 - (intOf i).toNat)
  case atStart => exact ⟨0, rfl, Nat.zero_le _, fun j h => by omega, grown_b1 _ _, by simp, heap_new' _ _⟩
  case round =>
    obtain ⟨k, rfl, hk, hno, hG, hsz, hres⟩ := hrel
    by_cases hlt : k < 8
    · have hJ := (unhide H0).grown hG
      have hb3 := cells3 hJ.heap
      have hbl := lt_of_heap' hJ.heap
      obtain ⟨hgl1, d0, d1, d2, d3, d4⟩ := entCells hJ.f2.slw hlt
      have HH := hide (hasR_any (ent S k) (hI.ent k) a a0 a1)
      have hNo := hide hno
      clear hno hJ
      cases hS : S k with
      | none =>
        have hh : Hid (hit S sp a k = none) := by unfold hit; rw [hS]; exact hide rfl
        generalize hf : ent S k = f at *
        go_wp2_with fail
        refine (unhide HH _).mono ?_
        rintro r w4 ⟨rfl, hg4⟩
        have hG4 : GN w w4 := hG.trans hg4
        have hJ4 := (unhide H0).grown hG4
        have hb3 := cells3 hJ4.heap
        have hbl := lt_of_heap' hJ4.heap
        obtain ⟨hgl1, d0, d1, d2, d3, d4⟩ := entCells hJ4.f2.slw hlt
        obtain ⟨hgl2, df, _⟩ := fullCell hJ4.f3.slw hlt
        have hsz4 : w.heap.size < w4.heap.size := Nat.lt_of_lt_of_le hsz hg4.size
        have hres4 := hg4.heap hres
        have hr5 := cells5 hres4
        rw [hS] at df
        simp only [Option.isSome_none] at df
        rw [hf] at d0 d1 d2 d3 d4
        clear hS hf hG hg4 HH hres hsz hJ4
        generalize hasB f a = hv at *
        go_wp2
        refine ⟨⟨k + 1, by go_num, by omega, fun j hj => ?_, hG4, hsz4, hres4⟩, by simp [intOf]; omega⟩
        by_cases hjk : j = k
        · subst hjk; exact unhide hh
        · exact unhide hNo j (by omega)
      | some f =>
        have hen : ent S k = f := by unfold ent; rw [hS]; rfl
        have Hit : Hid (hit S sp a k = if hasB f a && (f.gl || decide (f.sp = sp)) then some f else none) := by unfold hit; rw [hS]; exact hide rfl
        rw [hen] at d0 d1 d2 d3 d4 HH
        obtain ⟨x, lv, sp', gl, lf⟩ := f
        go_wp2_with fail
        refine (unhide HH _).mono ?_
        rintro r w4 ⟨rfl, hg4⟩
        have hG4 : GN w w4 := hG.trans hg4
        have hJ4 := (unhide H0).grown hG4
        have hb3 := cells3 hJ4.heap
        have hbl := lt_of_heap' hJ4.heap
        obtain ⟨hgl1, d0, d1, d2, d3, d4⟩ := entCells hJ4.f2.slw hlt
        obtain ⟨hgl2, df, _⟩ := fullCell hJ4.f3.slw hlt
        have hsz4 : w.heap.size < w4.heap.size := Nat.lt_of_lt_of_le hsz hg4.size
        have hres4 := hg4.heap hres
        have hr5 := cells5 hres4
        rw [hS] at df
        simp only [Option.isSome_some] at df
        rw [hen] at d0 d1 d2 d3 d4
        clear hS hen hG hg4 HH hres hsz hJ4
        have hgoal : (hasB ⟨x, lv, sp', gl, lf⟩ a = false ∧ Hid (hit S sp a k = none)) ∨ (hasB ⟨x, lv, sp', gl, lf⟩ a = true ∧ gl = true ∧ Hid (hit S sp a k = some ⟨x, lv, sp', gl, lf⟩)) ∨ (hasB ⟨x, lv, sp', gl, lf⟩ a = true ∧ gl = false ∧ sp' = sp ∧ Hid (hit S sp a k = some ⟨x, lv, sp', gl, lf⟩)) ∨
            (hasB ⟨x, lv, sp', gl, lf⟩ a = true ∧ gl = false ∧ (sp' == sp) = false ∧ Hid (hit S sp a k = none)) := by
          have := unhide Hit
          unfold Hid
          rw [this]
          cases hasB ⟨x, lv, sp', gl, lf⟩ a <;> cases gl <;> by_cases h : sp' = sp <;> simp [h]
        clear Hit
        generalize hasB ⟨x, lv, sp', gl, lf⟩ a = hv at *
        rcases hgoal with ⟨rfl, hh⟩ | ⟨rfl, rfl, hh⟩ | ⟨rfl, rfl, rfl, hh⟩ | ⟨rfl, rfl, hsp, hh⟩
        · go_wp2
          refine ⟨⟨k + 1, by go_num, by omega, fun j hj => ?_, hG4, hsz4, hres4⟩, by simp [intOf]; omega⟩
          by_cases hjk : j = k
          · subst hjk; exact unhide hh
          · exact unhide hNo j (by omega)
        · have hfin := hide (findS_at hlt (unhide hNo) (unhide hh))
          go_wp2
          exact bodyPost_ret (v := .tuple #[.agg #[.int .u64 x, .int .i64 lv, .int .u64 sp', .bool true, .int .u64 lf], .bool true]) (by simp [results, Try.results15, go_sem, hr5, hres4]) rfl ⟨by rw [unhide hfin]; rfl, by repeat (first | exact hG4 | refine GN.set ?_ (Nat.le_refl _) _ _)⟩
        · have hfin := hide (findS_at hlt (unhide hNo) (unhide hh))
          go_wp2
          exact bodyPost_ret (v := .tuple #[.agg #[.int .u64 x, .int .i64 lv, .int .u64 sp', .bool false, .int .u64 lf], .bool true]) (by simp [results, Try.results15, go_sem, hr5, hres4]) rfl ⟨by rw [unhide hfin]; rfl, by repeat (first | exact hG4 | refine GN.set ?_ (Nat.le_refl _) _ _)⟩
        · go_wp2
          refine ⟨⟨k + 1, by go_num, by omega, fun j hj => ?_, hG4, hsz4, hres4⟩, by simp [intOf]; omega⟩
          by_cases hjk : j = k
          · subst hjk; exact unhide hh
          · exact unhide hNo j (by omega)
    · obtain rfl : k = 8 := by omega
      have hfin := hide (findS_none hno)
      have hr5 := cells5 hres
      clear hno
      go_wp2
      exact bodyPost_ret (v := .tuple #[.agg #[.int .u64 0, .int .i64 0, .int .u64 0, .bool false, .int .u64 0], .bool false]) (by simp [results, Try.results15, go_sem, hr5, hres]) rfl ⟨by rw [unhide hfin]; rfl, by repeat (first | exact hG | refine GN.set ?_ (Nat.le_refl _) _ _)⟩
theorem findR_h (h : Heap w0 w (HP.tr b seed S :: L)) (sp a : Int) (a0 : 0 ≤ a) (a1 : a < 18446744073709551616) :
    Calls Try.prog 15 #[.pointer (some ⟨b, 0, none⟩), .int .u64 sp, .int .u64 a] w fun r w' => r = .returned (.tuple #[.agg ((findS S sp a).getD E.zero).cs.toArray, .bool (findS S sp a).isSome]) ∧ Heap w0 w' (HP.tr b seed S :: L) := by
  obtain ⟨⟨v1, v2⟩, ⟨hI, hsd⟩, hh⟩ := Heap.tr.1 h
  obtain ⟨g1, o1, c1, rfl, _⟩ := Sl.addr hh.f2.slw (by omega)
  obtain ⟨g2, o2, c2, rfl, _⟩ := Sl.addr hh.f3.slw (by omega)
  exact (findR_k hh hI sp a a0 a1).mono fun r w' ⟨hr, hg⟩ => ⟨hr, h.grown hg⟩
theorem find_h (h : Heap w0 w (HP.tl b seed S :: L)) (sp a : Int) (a0 : 0 ≤ a) (a1 : a < 18446744073709551616) :
    Calls Try.prog 14 #[.pointer (some ⟨b, 0, none⟩), .int .u64 sp, .int .u64 a] w fun r w' => r = .returned (.tuple #[.agg ((findS S sp a).getD E.zero).cs.toArray, .bool (findS S sp a).isSome]) ∧ Heap w0 w' (HP.tl b seed S :: L) := by
  obtain ⟨bm, ⟨hI, hsd⟩, hh⟩ := Heap.tl.1 h
  exact (find_any hh.heap hI sp a a0 a1).mono fun r w' ⟨hr, hg⟩ => ⟨hr, h.grown hg⟩
theorem fence_h (h : Heap w0 w (HP.tl b seed S :: L)) (bA : Bool) (a : Int) (bS : Bool) (sp : Int) (a0 : 0 ≤ a) (a1 : a < 18446744073709551616) :
    Calls Try.prog 16 #[.pointer (some ⟨b, 0, none⟩), .bool bA, .int .u64 a, .bool bS, .int .u64 sp] w fun r w' => r = .returned (.tuple #[]) ∧ Heap w0 w' (HP.tl b seed (fenK S ⟨bA, a, bS, sp⟩ 8) :: L) := by
  obtain ⟨bm, ⟨hI, hsd⟩, hh⟩ := Heap.tl.1 h
  exact (fence_k hh hI bA a bS sp a0 a1).mono fun r w' ⟨hr, hg⟩ => ⟨hr, Heap.tl.2 ⟨bm, ⟨fenK_inv hI _ _, hsd⟩, hg⟩⟩
theorem all_h (h : Heap w0 w (HP.tl b seed S :: L)) :
    Calls Try.prog 20 #[.pointer (some ⟨b, 0, none⟩)] w fun r w' => ∃ v, r = .returned v ∧ Heap w0 w' (HP.slw v 5 (kept S 8).length (ecs (kept S 8)) :: HP.tl b seed S :: L) := by
  obtain ⟨bm, ⟨hI, hsd⟩, hh⟩ := Heap.tl.1 h
  exact (all_any hh.heap).mono fun r w' ⟨v, hr, hg⟩ => ⟨v, hr, h.call_slw hg⟩
end
end Go.Proofs.Ytlkkmpfhhfaioaa
