/- Layer 15: Find, All. -/
import Derived.Test.YtlkkmpfhhfaioaaT2
namespace Go.Proofs.Ytlkkmpfhhfaioaa
open Go.RowKit

theorem isz55 : (Try.prog.info? 55).map (·.size) = some 40 := by kernel_rfl
theorem isz56 : (Try.prog.info? 56).map (·.size) = some 8 := by kernel_rfl
theorem L40_len (S : Slots) : (L40 S).length = 40 := by simp [L40]
theorem L8_len (S : Slots) : (L8 S).length = 8 := by simp [L8]
theorem ext5 (S : Slots) (k : Nat) (hk : k < 8) : (L40 S).toArray.extract (k * 5) (k * 5 + 5) = #[.int .u64 (ent S k).at_, .int .i64 (ent S k).lv, .int .u64 (ent S k).sp, .bool (ent S k).gl, .int .u64 (ent S k).lf] := by
  apply Array.toList_inj.1
  apply List.ext_getElem?
  intro i
  simp only [Array.toList_extract, List.extract, List.getElem?_take, List.getElem?_drop]
  by_cases h : i < 5
  · rw [if_pos (by omega), L40_get, if_pos (by omega), show (k * 5 + i) / 5 = k by omega, show (k * 5 + i) % 5 = i by omega, ← e_cs_get _ _ h]
    rfl
  · rw [if_neg (by omega)]
    simp [h]
theorem run_part33 (A : Array Value) (n : Nat) (w : World) : (part 33 A n).run Try.prog w = .ok (.agg (A.extract n (n + 5))) w := by kernel_rfl
theorem run_asInt (k : Int) (w : World) : (asIntOf (.int .i64 k)).run Try.prog w = .ok (.i64, k) w := rfl
theorem sz33 : Try.prog.cellsOf 33 = 5 := by kernel_rfl
theorem run_size33 (w : World) : (sizeOf 33).run Try.prog w = .ok 5 w := by kernel_rfl
theorem run_ix (S : Slots) (k : Nat) (hk : k < 8) (w : World) : (Instr.index 55 (.agg (L40 S).toArray) (.int .i64 (k : Int))).run Try.prog w = .ok (.agg #[.int .u64 (ent S k).at_, .int .i64 (ent S k).lv, .int .u64 (ent S k).sp, .bool (ent S k).gl, .int .u64 (ent S k).lf]) w := by
  rw [← ext5 S k hk]
  have h8 : (0 : Int) ≤ (k : Int) ∧ (k : Int) < ((8 : Nat) : Int) := by omega
  unfold Instr.index
  simp only [Sem.run_bind, run_asInt, Result.andThen_ok, run_underlying Try.underlying55]
  rw [if_pos h8]
  simp only [Sem.run_bind, run_size33, Result.andThen_ok, run_part33, Int.toNat_natCast]

theorem full_cell {w : World} {b bm : Nat} {seed : Int} {S : Slots} (hb : w.heap[b]? = some (.cells (tcs seed bm S).toArray 58 (0, 0))) {k : Nat} (hk : k < 8) : w.cell? ⟨b, 42 + k, none⟩ = some (.bool (S k).isSome) := by
  rw [(cell_blk hb (42 + k)).1, tcs_get, if_pos (by omega), if_neg (by omega), if_neg (by omega), if_neg (by omega), show 42 + k - 42 = k by omega]
theorem cells5 {w : World} {b : Nat} {a0 a1 a2 a3 a4 : Value} {T : TypeId} (h : w.heap[b]? = some (.cells #[a0, a1, a2, a3, a4] T (0, 0))) :
    w.cell? ⟨b, 0, none⟩ = some a0 ∧ w.cell? ⟨b, 1, none⟩ = some a1 ∧ w.cell? ⟨b, 2, none⟩ = some a2 ∧ w.cell? ⟨b, 3, none⟩ = some a3 ∧ w.cell? ⟨b, 4, none⟩ = some a4 ∧
    w.frozen? ⟨b, 0, none⟩ = false ∧ w.frozen? ⟨b, 1, none⟩ = false ∧ w.frozen? ⟨b, 2, none⟩ = false ∧ w.frozen? ⟨b, 3, none⟩ = false ∧ w.frozen? ⟨b, 4, none⟩ = false := by
  simp [World.cell?, World.frozen?, h]
theorem GN.set {w w' : World} (h : GN w w') {c : Nat} (hc : w.heap.size ≤ c) (o : Nat) (x : Value) : GN w (w'.setCell ⟨c, o, none⟩ x) :=
  ⟨h.os, h.tape, h.output, by have := h.size; simpa [World.setCell] using this, fun k hk hn => (Below.heap_setCell w' ⟨c, o, none⟩ x k (by simp; omega)).trans (h.block k hk hn)⟩
set_option maxRecDepth 100000 in
set_option maxHeartbeats 4000000 in
theorem find_any {w : World} {b bm : Nat} {seed : Int} {S : Slots} (hb : w.heap[b]? = some (.cells (tcs seed bm S).toArray 58 (0, 0))) (hI : Inv S) (sp a : Int) (a0 : 0 ≤ a) (a1 : a < 18446744073709551616) :
    Calls Try.prog 14 #[.pointer (some ⟨b, 0, none⟩), .int .u64 sp, .int .u64 a] w fun r w' => r = .returned (.tuple #[.agg ((findS S sp a).getD E.zero).cs.toArray, .bool (findS S sp a).isSome]) ∧ GN w w' := by
  have hlt := lt_of_heap' hb
  have HB := hide hb
  have hrg : ∀ w' : World, w'.heap[b]? = w.heap[b]? → w'.rangeAt b 2 (L40 S) := fun w' h => range_blk (h.trans hb) 2 40 _ (tcs_range seed bm S)
  go_enter Try.func14, Try.ntmps14
  go_wp2_with (refine wpList_load_mid rfl 55 _ rfl b 2 rfl (L40 S) _ (hrg _ (Below.heap_alloc w _ b hlt)) Try.underlying55 rfl (by rw [L40_len]; exact isz55) ?_)
  have hlt2 : b < w.heap.size + 1 := by omega
  go_loopw [14] (fun i wr => ∃ k : Nat, i = .int .i64 k ∧ k ≤ 8 ∧ (∀ j, j < k → hit S sp a j = none) ∧ GN w wr ∧ w.heap.size < wr.heap.size ∧ wr.heap[w.heap.size]? = some (.cells #[.int .u64 0, .int .i64 0, .int .u64 0, .bool false, .int .u64 0] 33)) (fun i _ => 8 - (intOf i).toNat)
  case atStart => exact ⟨0, rfl, Nat.zero_le _, fun j h => by omega, grown_b1 _ _, by simp, heap_new' _ _⟩
  case round =>
    obtain ⟨k, rfl, hk, hno, hG, hsz, hres⟩ := hrel
    by_cases hlt : k < 8
    · have hbr := hG.heap (unhide HB)
      have hfull := full_cell hbr hlt
      have hbl := lt_of_heap' hbr
      have hix := run_ix S k hlt
      have hne : ¬ w.heap.size = wr.heap.size := by omega
      generalize (L40 S).toArray = A40 at *
      have hNo := hide hno
      clear hno hb hbr hrg
      cases hS : S k with
      | none =>
        rw [hS] at hfull
        simp only [Option.isSome_none] at hfull
        have hS := hide hS
        go_wp2
        go_roundw
        case rel =>
          refine ⟨k + 1, by go_num, by omega, fun j hj => ?_, hG.alloc _, by simp; omega, (Below.heap_alloc wr _ _ hsz).trans hres⟩
          by_cases hjk : j = k
          · subst hjk; unfold hit; rw [unhide hS]
          · exact unhide hNo j (by omega)
        case measure => simp [intOf]; omega
      | some e =>
        have hen : ent S k = e := by unfold ent; rw [hS]; rfl
        rw [hen] at hix
        have he := hI.ok k e hS
        have HH := hide (has_any e he a a0 a1)
        have Hit : Hid (hit S sp a k = if hasB e a && (e.gl || decide (e.sp = sp)) then some e else none) := by unfold hit; rw [hS]; rfl
        rw [hS] at hfull
        simp only [Option.isSome_some] at hfull
        clear hS hen
        obtain ⟨x, lv, sp', gl, lf⟩ := e
        go_wp2_with fail
        refine (unhide HH _).mono ?_
        rintro r w4 ⟨rfl, hg4⟩
        have hc5 := cells5 (hg4.heap (heap_new' wr _))
        have hr5 := cells5 (hg4.heap ((Below.heap_alloc wr _ _ hsz).trans hres))
        have hG4 : GN w w4 := (hG.alloc _).trans hg4
        have hsz4 : w.heap.size < w4.heap.size := by have := World.grownBy.size hg4; simp at this; omega
        have hres4 := hg4.heap ((Below.heap_alloc wr (.cells #[.int .u64 x, .int .i64 lv, .int .u64 sp', .bool gl, .int .u64 lf] 33) _ hsz).trans hres)
        have hgoal : (hasB ⟨x, lv, sp', gl, lf⟩ a = false ∧ Hid (hit S sp a k = none)) ∨ (hasB ⟨x, lv, sp', gl, lf⟩ a = true ∧ gl = true ∧ Hid (hit S sp a k = some ⟨x, lv, sp', gl, lf⟩)) ∨ (hasB ⟨x, lv, sp', gl, lf⟩ a = true ∧ gl = false ∧ sp' = sp ∧ Hid (hit S sp a k = some ⟨x, lv, sp', gl, lf⟩)) ∨
            (hasB ⟨x, lv, sp', gl, lf⟩ a = true ∧ gl = false ∧ (sp' == sp) = false ∧ Hid (hit S sp a k = none)) := by
          have := unhide Hit
          unfold Hid
          rw [this]
          cases hasB ⟨x, lv, sp', gl, lf⟩ a <;> cases gl <;> by_cases h : sp' = sp <;> simp [h]
        clear hG hg4 Hit HH hfull hix hres hsz
        generalize hasB ⟨x, lv, sp', gl, lf⟩ a = hv at *
        rcases hgoal with ⟨rfl, hh⟩ | ⟨rfl, rfl, hh⟩ | ⟨rfl, rfl, rfl, hh⟩ | ⟨rfl, rfl, hsp, hh⟩
        · go_wp2
          go_roundw
          case rel =>
            refine ⟨k + 1, by go_num, by omega, fun j hj => ?_, hG4, hsz4, hres4⟩
            by_cases hjk : j = k
            · subst hjk; exact unhide hh
            · exact unhide hNo j (by omega)
          case measure => simp [intOf]; omega
        · have hfin := hide (findS_at hlt (unhide hNo) (unhide hh))
          go_wp2
          exact bodyPost_ret (v := .tuple #[.agg #[.int .u64 x, .int .i64 lv, .int .u64 sp', .bool true, .int .u64 lf], .bool true]) (by simp [results, Try.results14, go_sem, hr5, hres4]) rfl ⟨by rw [unhide hfin]; rfl, by repeat (first | exact hG4 | refine GN.set ?_ (Nat.le_refl _) _ _)⟩
        · have hfin := hide (findS_at hlt (unhide hNo) (unhide hh))
          go_wp2
          exact bodyPost_ret (v := .tuple #[.agg #[.int .u64 x, .int .i64 lv, .int .u64 sp', .bool false, .int .u64 lf], .bool true]) (by simp [results, Try.results14, go_sem, hr5, hres4]) rfl ⟨by rw [unhide hfin]; rfl, by repeat (first | exact hG4 | refine GN.set ?_ (Nat.le_refl _) _ _)⟩
        · go_wp2
          go_roundw
          case rel =>
            refine ⟨k + 1, by go_num, by omega, fun j hj => ?_, hG4, hsz4, hres4⟩
            by_cases hjk : j = k
            · subst hjk; exact unhide hh
            · exact unhide hNo j (by omega)
          case measure => simp [intOf]; omega
    · obtain rfl : k = 8 := by omega
      have hfin := hide (findS_none hno)
      have hr5 := cells5 hres
      clear hno hb hrg
      go_wp2
      exact bodyPost_ret (v := .tuple #[.agg #[.int .u64 0, .int .i64 0, .int .u64 0, .bool false, .int .u64 0], .bool false]) (by simp [results, Try.results14, go_sem, hr5, hres]) rfl ⟨by rw [unhide hfin]; rfl, by repeat (first | exact hG | refine GN.set ?_ (Nat.le_refl _) _ _)⟩
end Go.Proofs.Ytlkkmpfhhfaioaa
