/- Layer 15: All, of the table; what is told one by one. -/
import Derived.Test.YtlkkmpfhhfaioaaT3
namespace Go.Proofs.Ytlkkmpfhhfaioaa
open Go.RowKit

def ecs (es : List E) : List Value := es.flatMap E.cs
theorem ecs_snoc (es : List E) (e : E) : ecs (es ++ [e]) = ecs es ++ e.cs := by simp [ecs]
theorem ecs_len (es : List E) : (ecs es).length = es.length * 5 := by
  induction es with
  | nil => rfl
  | cons e es ih => simp only [ecs, List.flatMap_cons, List.length_append, List.length_cons] at ih ⊢; rw [ih]; simp [E.cs]; omega
theorem ecs_get (es : List E) : ∀ (i j : Nat) (e : E), es[i]? = some e → j < 5 → (ecs es)[i * 5 + j]? = e.cs[j]? := by
  induction es with
  | nil => intro i j e h; simp at h
  | cons x es ih =>
    intro i j e h hj
    have hl : x.cs.length = 5 := rfl
    simp only [ecs, List.flatMap_cons]
    cases i with
    | zero =>
      simp at h
      subst h
      rw [List.getElem?_append_left (by omega)]
      simp
    | succ i =>
      rw [List.getElem?_append_right (by omega), hl, show (i + 1) * 5 + j - 5 = i * 5 + j by omega]
      exact ih i j e (by simpa using h) hj
theorem cs_one (e : E) : ∀ y ∈ e.cs, y.oneCell' = true := by
  intro y hy
  simp only [E.cs, List.mem_cons, List.mem_nil_iff, or_false] at hy
  rcases hy with rfl | rfl | rfl | rfl | rfl <;> rfl
def kept (S : Slots) (k : Nat) : List E := (List.range k).filterMap fun n => S n
theorem kept_none {S : Slots} {k : Nat} (h : S k = none) : kept S (k + 1) = kept S k := by
  unfold kept; rw [List.range_succ, List.filterMap_append]; simp [h]
theorem kept_some {S : Slots} {k : Nat} {e : E} (h : S k = some e) : kept S (k + 1) = kept S k ++ [e] := by
  unfold kept; rw [List.range_succ, List.filterMap_append]; simp [h]
theorem kept_len (S : Slots) (k : Nat) : (kept S k).length ≤ k := by
  unfold kept; exact Nat.le_trans (List.length_filterMap_le _ _) (by simp)
theorem Sl.five (w : World) (T : TypeId) (e : E) {k : Nat} (hk : k = w.heap.size) : Sl (w.alloc (.cells #[.int .u64 e.at_, .int .i64 e.lv, .int .u64 e.sp, .bool e.gl, .int .u64 e.lf] T)) 5 (.slice (some ⟨k, 0, none⟩) 1 1) 1 e.cs := by
  subst hk
  exact ⟨rfl, .inr ⟨w.heap.size, 0, 1, _, T, rfl, heap_new' w _, Nat.le_refl _, by simp, by simp [E.cs]⟩⟩
theorem info33 : (Try.prog.info? 33).map (fun i => (i.zero, i.size, i.bytes)) = some (some (.agg #[.int .u64 0, .int .i64 0, .int .u64 0, .bool false, .int .u64 0]), 5, 40) := by kernel_rfl
theorem info36 : (Try.prog.info? 36).map (fun i => (i.zero, i.size, i.bytes)) = some (some (.agg #[.int .u64 0, .int .i64 0, .int .u64 0, .bool false, .int .u64 0]), 5, 40) := by kernel_rfl
theorem Sl.alloc {w : World} {sz n : Nat} {v : Value} {xs : List Value} (h : Sl w sz v n xs) (o : Obj) : Sl (w.alloc o) sz v n xs :=
  h.kept ((GN.refl w).alloc o) (by simp)
theorem Sl.gn {w w' : World} {sz n : Nat} {v : Value} {xs : List Value} (h : Sl w sz v n xs) (hg : GN w w') : Sl w' sz v n xs := h.kept (row := none) hg (by simp)
theorem gn_of_below {w w' : World} (h : Below w.heap.size w w') : GN w w' := ⟨h.os, h.tape, h.output, h.size, fun k hk _ => h.block k hk⟩
set_option maxRecDepth 100000 in
set_option maxHeartbeats 4000000 in
theorem all_any {w : World} {b bm : Nat} {seed : Int} {S : Slots} (hb : w.heap[b]? = some (.cells (tcs seed bm S).toArray 58 (0, 0))) :
    Calls Try.prog 20 #[.pointer (some ⟨b, 0, none⟩)] w fun r w' => ∃ v, r = .returned v ∧ Heap w w' [HP.slw v 5 (kept S 8).length (ecs (kept S 8))] := by
  have hlt := lt_of_heap' hb
  have HB := hide hb
  obtain ⟨i0, hi, hz0, hz1, hz2⟩ := info_parts info33
  have hrg := range_blk hb 2 40 _ (tcs_range seed bm S)
  have hJ0 : Heap w w [HP.slw (.slice none 0 0) 5 0 []] := (Heap.nil w).noneS
  go_enter Try.func20, Try.ntmps20
  go_wp2_with (refine wpList_load_mid rfl 55 _ rfl b 2 rfl (L40 S) _ hrg Try.underlying55 rfl (by rw [L40_len]; exact isz55) ?_)
  go_loopw [3, 10] (fun v i wr => ∃ k : Nat, i = .int .i64 k ∧ k ≤ 8 ∧ Heap w wr [HP.slw v 5 (kept S k).length (ecs (kept S k))]) (fun _ i _ => 8 - (intOf i).toNat)
  case atStart => exact ⟨0, rfl, Nat.zero_le _, hJ0⟩
  case round =>
    rename_i v
    obtain ⟨k, rfl, hk, hJ⟩ := hrel
    by_cases hlt8 : k < 8
    · have hbr := (gn_of_below hJ.below).heap (unhide HB)
      have hfull := full_cell hbr hlt8
      have hbl := lt_of_heap' hbr
      have hix := run_ix S k hlt8
      have hkl := kept_len S k
      generalize (L40 S).toArray = A40 at *
      clear hbr hrg hb hJ0
      obtain ⟨A, cap, rfl, hcap⟩ := hJ.slw.parts
      cases hS : S k with
      | none =>
        rw [hS] at hfull
        simp only [Option.isSome_none] at hfull
        have hS := hide hS
        go_wp2
        go_roundw
        case rel => exact ⟨k + 1, by go_num, by omega, by rw [kept_none (unhide hS)]; exact hJ.alloc _⟩
        case measure => simp [intOf]; omega
      | some e =>
        have hen : ent S k = e := by unfold ent; rw [hS]; rfl
        rw [hen] at hix
        rw [hS] at hfull
        simp only [Option.isSome_some] at hfull
        have hone := cs_one e
        have hS := hide hS
        clear hen
        go_wp2_with (at_builtin; refine wpList_append_sl rfl _ _ 44 rfl 33 i0 _ 5 40 Try.underlying44 hi hz0 hz1 hz2 rfl rfl rfl ((hJ.slw.alloc _).alloc _) (Sl.five _ 33 e (by simp)) hone (by omega) (by omega) ?_; intro v' w' hsl hgr hblk hsp)
        obtain ⟨A', cap', rfl, _⟩ := hsl.parts
        have hJ' : Heap w w' [HP.slw (.slice A' ((kept S k).length + 1) cap') 5 (kept S (k + 1)).length (ecs (kept S (k + 1)))] := by
          rw [kept_some (unhide hS), ecs_snoc, List.length_append]
          exact ((hJ.alloc _).alloc _).appendw hsl hgr hblk
        go_roundw
        case rel => exact ⟨k + 1, by go_num, by omega, hJ'⟩
        case measure => simp [intOf]; omega
    · obtain rfl : k = 8 := by omega
      obtain ⟨A, cap, rfl, hcap⟩ := hJ.slw.parts
      clear hb hrg hJ0
      go_wp2
      go_ret
      exact ⟨_, rfl, hJ⟩
/-- Entries that are told, one by one: the two lists are the same. -/
theorem cellsE {w : World} {v : Value} {n : Nat} {es : List E} (h : Sl w 5 v n (ecs es)) {i : Nat} {e : E} (hi : es[i]? = some e) : ∃ (g o cap : Nat), v = .slice (some ⟨g, o, none⟩) n cap ∧ g < w.heap.size ∧ es.length = n ∧
    w.cell? ⟨g, o + i * 5, none⟩ = some (.int .u64 e.at_) ∧ w.cell? ⟨g, o + i * 5 + 1, none⟩ = some (.int .i64 e.lv) ∧ w.cell? ⟨g, o + i * 5 + 2, none⟩ = some (.int .u64 e.sp) ∧ w.cell? ⟨g, o + i * 5 + 3, none⟩ = some (.bool e.gl) ∧ w.cell? ⟨g, o + i * 5 + 4, none⟩ = some (.int .u64 e.lf) := by
  have hl := h.len
  rw [ecs_len] at hl
  have hil : i < es.length := (List.getElem?_eq_some_iff.1 hi).1
  have key : ∀ j, j < 5 → ∃ (g o cap : Nat), v = .slice (some ⟨g, o, none⟩) n cap ∧ g < w.heap.size ∧ w.cell? ⟨g, o + (i * 5 + j), none⟩ = e.cs[j]? := by
    intro j hj
    obtain ⟨g, o, cap, hv, _, hg, _, hc, _⟩ := h.cell (j := i * 5 + j) (by omega)
    exact ⟨g, o, cap, hv, hg, by rw [hc, ecs_get es i j e hi hj]⟩
  obtain ⟨g, o, cap, hv, hg, h0⟩ := key 0 (by omega)
  have rest : ∀ j, j < 5 → w.cell? ⟨g, o + i * 5 + j, none⟩ = e.cs[j]? := by
    intro j hj
    obtain ⟨g', o', cap', hv', _, hc⟩ := key j hj
    rw [hv] at hv'
    injection hv' with h1
    injection h1 with h1
    injection h1 with e1 e2
    subst e1; subst e2
    rw [Nat.add_assoc]; exact hc
  exact ⟨g, o, cap, hv, hg, by omega, rest 0 (by omega), rest 1 (by omega), rest 2 (by omega), rest 3 (by omega), rest 4 (by omega)⟩
theorem eq36 (e : E) (he : e.ok) (w : World) : (binOp .neq 36 (.agg #[.int .u64 e.at_, .int .i64 e.lv, .int .u64 e.sp, .bool e.gl, .int .u64 e.lf]) (.agg #[.int .u64 e.at_, .int .i64 e.lv, .int .u64 e.sp, .bool e.gl, .int .u64 e.lf])).run Try.prog w = .ok (.bool false) w :=
  run_neq_same flat36 named36 kt36 (formed36 _ _ _ _ _) (fits_e he)
set_option maxRecDepth 100000 in
set_option maxHeartbeats 1000000 in
theorem same_any {w : World} {a b : Value} {es : List E} {n : Nat} (ha : Sl w 5 a n (ecs es)) (hb : Sl w 5 b n (ecs es)) (hok : ∀ e ∈ es, e.ok) (hn8 : n ≤ 1000000) :
    Calls Try.prog 22 #[a, b] w fun r w' => r = .returned (.bool true) ∧ GN w w' := by
  have hn : es.length = n := by have := ha.len; rw [ecs_len] at this; omega
  obtain ⟨A, cap, rfl, hcap⟩ := ha.parts
  obtain ⟨B, cap2, rfl, hcap2⟩ := hb.parts
  have HA := hide ha
  have HB := hide hb
  have HO := hide hok
  clear ha hb hok
  go_enter Try.func22, Try.ntmps22
  go_wp2
  go_loopw [5] (fun i wr => ∃ k : Nat, i = .int .i64 k ∧ k ≤ n ∧ GN w wr) (fun i _ => n - (intOf i).toNat)
  case atStart => exact ⟨0, rfl, Nat.zero_le _, GN.refl w⟩
  case round =>
    obtain ⟨k, rfl, hk, hG⟩ := hrel
    by_cases hlt : k < n
    · obtain ⟨e, he⟩ : ∃ e, es[k]? = some e := ⟨_, List.getElem?_eq_getElem (by omega)⟩
      obtain ⟨g, o, _, h1, hgl, _, c0, c1, c2, c3, c4⟩ := cellsE ((unhide HA).gn hG) he
      obtain ⟨g2, o2, _, h2, hgl2, _, d0, d1, d2, d3, d4⟩ := cellsE ((unhide HB).gn hG) he
      have hok := unhide HO e (List.mem_of_getElem? he)
      injection h1 with hA1 _ hA2
      injection h2 with hB1 _ hB2
      subst hA1 hA2 hB1 hB2
      have heq := eq36 e hok
      obtain ⟨x, lv, sp, gl, lf⟩ := e
      clear hok he hn
      go_wp2
      go_quiet (fail)
      go_wp2
      go_roundw
      case rel => exact ⟨k + 1, by go_num, by omega, hG.drewN _⟩
      case measure => simp [intOf]; omega
    · obtain rfl : k = n := by omega
      go_wp2
      go_ret
      exact ⟨rfl, hG⟩
end Go.Proofs.Ytlkkmpfhhfaioaa
