/- Layer 18: what holds of all states; Mark, Counters, Copy. -/
import Derived.Test.YtblbgalpkodibaaDoorG3
import Derived.Test.YtblbgalpkodibaaDoorTools
namespace Go.Proofs.YtblbgalpkodibaaDoor
open Go.RowKit

section
variable {w0 w : World} {L : List HP} {b : Nat} {c : St}
theorem GI.stack (hI : GI c) {c' : St} (hout : ∀ i, i < 112 → c' i = c i) (hh : c' 117 = c 117) (hs : ∀ i, i < 4 → 0 ≤ c' (112 + i) ∧ c' (112 + i) < 18446744073709551616) (hz : 0 ≤ c' 116 ∧ c' 116 ≤ 4) (hzero : ∀ i : Nat, i < 4 → c' 116 ≤ i → c' (112 + i) = 0) : GI c' :=
  ⟨fun i h h2 => by rw [hout i (by omega)]; exact hI.row i h h2, fun i h => by rw [hout _ (by omega)]; exact hI.kind i h, fun i h => by rw [hout _ (by omega)]; exact hI.ctr i h, hs, hz, by rw [hh]; exact hI.hist, hzero⟩
theorem lt4 {i : Nat} (h : i < 4) : i = 0 ∨ i = 1 ∨ i = 2 ∨ i = 3 := by omega
theorem GI.push (hI : GI c) {v : Int} (v0 : 0 ≤ v) (v1 : v < 18446744073709551616) : GI (pushS c v) := by
  have s0 := hI.stk 0 (by omega)
  have s1 := hI.stk 1 (by omega)
  have s2 := hI.stk 2 (by omega)
  have s3 := hI.stk 3 (by omega)
  have z1 := hI.zero 1 (by omega)
  have z2 := hI.zero 2 (by omega)
  have z3 := hI.zero 3 (by omega)
  simp only [Nat.reduceAdd] at s0 s1 s2 s3 z1 z2 z3
  have hz := hI.size
  have hss : c 116 = 0 ∨ c 116 = 1 ∨ c 116 = 2 ∨ c 116 = 3 ∨ c 116 = 4 := by omega
  refine hI.stack (fun i h => ?_) ?_ (fun i h => ?_) ?_ (fun i h hl => ?_)
  · rcases hss with hs | hs | hs | hs | hs <;> simp [pushS, hs, shift, upd] <;> repeat rw [if_neg (by omega)]
  · rcases hss with hs | hs | hs | hs | hs <;> simp [pushS, hs, shift, upd]
  · rcases hss with hs | hs | hs | hs | hs <;> rcases lt4 h with rfl | rfl | rfl | rfl <;> simp [pushS, hs, shift, upd] <;> omega
  · rcases hss with hs | hs | hs | hs | hs <;> simp [pushS, hs, upd]
  · rcases hss with hs | hs | hs | hs | hs <;> rcases lt4 h with rfl | rfl | rfl | rfl <;> simp [pushS, hs, upd] at hl ⊢ <;> omega
theorem GI.pop (hI : GI c) : GI (popS c) := by
  have s0 := hI.stk 0 (by omega)
  have s1 := hI.stk 1 (by omega)
  have s2 := hI.stk 2 (by omega)
  have s3 := hI.stk 3 (by omega)
  have z0 := hI.zero 0 (by omega)
  have z1 := hI.zero 1 (by omega)
  have z2 := hI.zero 2 (by omega)
  have z3 := hI.zero 3 (by omega)
  simp only [Nat.reduceAdd, Nat.add_zero] at s0 s1 s2 s3 z0 z1 z2 z3
  have hz := hI.size
  have hss : c 116 = 0 ∨ c 116 = 1 ∨ c 116 = 2 ∨ c 116 = 3 ∨ c 116 = 4 := by omega
  refine hI.stack (fun i h => ?_) ?_ (fun i h => ?_) ?_ (fun i h hl => ?_)
  · rcases hss with hs | hs | hs | hs | hs <;> simp [popS, hs, upd] <;> repeat rw [if_neg (by omega)]
  · rcases hss with hs | hs | hs | hs | hs <;> simp [popS, hs, upd]
  · rcases hss with hs | hs | hs | hs | hs <;> rcases lt4 h with rfl | rfl | rfl | rfl <;> simp [popS, hs, upd] <;> omega
  · rcases hss with hs | hs | hs | hs | hs <;> simp [popS, hs, upd]
  · rcases hss with hs | hs | hs | hs | hs <;> rcases lt4 h with rfl | rfl | rfl | rfl <;> simp [popS, hs, upd] at hl ⊢ <;> omega
theorem GI.next (hI : GI c) (pc size : Int) : GI (nSt c pc size) := by
  unfold nSt
  split
  · exact hI.push (behind_bd pc size).1 (behind_bd pc size).2
  · split
    · exact hI.pop
    · exact hI
theorem GI.updC (hI : GI c) {k : Nat} (hk : k < 64) {x : Int} (h0 : 0 ≤ x) (h1 : x ≤ 3) : GI (upd c (48 + k) x) := by
  refine ⟨fun i h h2 => ?_, fun i h => ?_, fun i h => ?_, fun i h => ?_, ?_, ?_, fun i h => ?_⟩
  · unfold upd; rw [if_neg (by omega)]; exact hI.row i h h2
  · unfold upd; rw [if_neg (by omega)]; exact hI.kind i h
  · unfold upd
    by_cases e : i = k
    · rw [if_pos (by omega)]; exact ⟨h0, h1⟩
    · rw [if_neg (by omega)]; exact hI.ctr i h
  · unfold upd; rw [if_neg (by omega)]; exact hI.stk i h
  · unfold upd; rw [if_neg (by omega)]; exact hI.size
  · unfold upd; rw [if_neg (by omega)]; exact hI.hist
  · unfold upd; rw [if_neg (by omega), if_neg (by omega)]; exact hI.zero i h
theorem GI.updH (hI : GI c) {x : Int} (h0 : 0 ≤ x) (h1 : x < 64) : GI (upd c 117 x) := by
  refine ⟨fun i h h2 => ?_, fun i h => ?_, fun i h => ?_, fun i h => ?_, ?_, ?_, fun i h => ?_⟩
  · unfold upd; rw [if_neg (by omega)]; exact hI.row i h h2
  · unfold upd; rw [if_neg (by omega)]; exact hI.kind i h
  · unfold upd; rw [if_neg (by omega)]; exact hI.ctr i h
  · unfold upd; rw [if_neg (by omega)]; exact hI.stk i h
  · unfold upd; rw [if_neg (by omega)]; exact hI.size
  · unfold upd; rw [if_pos rfl]; exact ⟨h0, h1⟩
  · unfold upd; rw [if_neg (by omega), if_neg (by omega)]; exact hI.zero i h
theorem GI.learn (hI : GI c) (pc kind : Int) (taken : Bool) (tgt : Int) (p0 : 0 ≤ pc) (p1 : pc < 18446744073709551616) (t0 : 0 ≤ tgt) (t1 : tgt < 18446744073709551616) : GI (lSt c pc kind taken tgt) := by
  unfold lSt
  split
  · exact hI
  · rename_i hk
    have hR : GI (lRow c pc kind taken tgt) := by
      unfold lRow
      split
      · exact hI.setRow (rowN_lt pc) p0 p1 t0 t1 (by omega) (by omega)
      · exact hI
    split
    · exact hR
    · have hc := ctrN_lt pc (c 117)
      generalize ctrN pc (c 117) = k at *
      generalize lRow c pc kind taken tgt = d at *
      have h1 := hR.ctr k hc
      have h2 := hR.hist
      unfold lCtr
      split
      · exact ((hR.updH (by omega) (by omega)).updC hc (by omega) (by omega)).updH (by omega) (by omega)
      · split
        · exact (hR.updH (by omega) (by omega)).updC hc (by omega) (by omega)
        · exact hR.updH (by omega) (by omega)
theorem next_h (h : Heap w0 w (HP.gg b c :: L)) (pc size : Int) (p0 : 0 ≤ pc) (p1 : pc < 18446744073709551616) :
    Calls Tryd.prog 45 #[.pointer (some ⟨b, 0, none⟩), .int .u64 pc, .int .i64 size] w fun r w' => r = .returned (.int .u64 (nOut c pc size)) ∧ Heap w0 w' (HP.gg b (nSt c pc size) :: L) := by
  obtain ⟨hI, hh⟩ := Heap.gg.1 h
  exact (next_k hh hI pc size p0 p1).mono fun r w' ⟨hr, hg⟩ => ⟨hr, Heap.gg.2 ⟨hI.next _ _, hg⟩⟩
theorem learn_h (h : Heap w0 w (HP.gg b c :: L)) (pc kind : Int) (taken : Bool) (tgt : Int) (p0 : 0 ≤ pc) (p1 : pc < 18446744073709551616) (t0 : 0 ≤ tgt) (t1 : tgt < 18446744073709551616) :
    Calls Tryd.prog 26 #[.pointer (some ⟨b, 0, none⟩), .int .u64 pc, .int .i64 kind, .bool taken, .int .u64 tgt] w fun r w' => r = .returned (.tuple #[]) ∧ Heap w0 w' (HP.gg b (lSt c pc kind taken tgt) :: L) := by
  obtain ⟨hI, hh⟩ := Heap.gg.1 h
  exact (learn_k hh hI pc kind taken tgt p0 p1 t0 t1).mono fun r w' ⟨hr, hg⟩ => ⟨hr, Heap.gg.2 ⟨hI.learn _ _ _ _ p0 p1 t0 t1, hg⟩⟩
theorem Heap.ggI (h : Heap w0 w (HP.gg b c :: L)) : GI c := (Heap.gg.1 h).1

/-! ### Mark, Counters, Copy -/
def mkv (c : St) : Array Value := #[.int .u64 (c 112), .int .u64 (c 113), .int .u64 (c 114), .int .u64 (c 115), .int .i64 (c 116), .int .u64 (c 117)]
theorem mark_h (h : Heap w0 w (HP.gg b c :: L)) :
    Calls Tryd.prog 44 #[.pointer (some ⟨b, 0, none⟩)] w fun r w' => r = .returned (.agg (mkv c)) ∧ Heap w0 w' (HP.gg b c :: L) := by
  obtain ⟨hI, hh⟩ := Heap.gg.1 h
  have d0 := (gcell hh.heap (i := 112) (by omega)).1
  have d1 := (gcell hh.heap (i := 113) (by omega)).1
  have d2 := (gcell hh.heap (i := 114) (by omega)).1
  have d3 := (gcell hh.heap (i := 115) (by omega)).1
  have d4 := (gcell hh.heap (i := 116) (by omega)).1
  have d5 := (gcell hh.heap (i := 117) (by omega)).1
  rw [show gk 112 = .u64 from rfl] at d0
  rw [show gk 113 = .u64 from rfl] at d1
  rw [show gk 114 = .u64 from rfl] at d2
  rw [show gk 115 = .u64 from rfl] at d3
  rw [show gk 116 = .i64 from rfl] at d4
  rw [show gk 117 = .u64 from rfl] at d5
  have hlt := lt_of_heap' hh.heap
  go_enter Tryd.func44, Tryd.ntmps44
  go_wp2
  exact bodyPost_ret (v := .agg (mkv c)) (by simp [results, Tryd.results44, go_sem, mkv]) rfl ⟨rfl, h.alloc _⟩
def ctl (c : St) : List Value := (List.range 64).map fun i => .int .u8 (c (48 + i))
theorem ctl_get (c : St) (i : Nat) : (ctl c)[i]? = if i < 64 then some (.int .u8 (c (48 + i))) else none := by
  unfold ctl; rw [List.getElem?_map]; by_cases h : i < 64 <;> simp [h]
theorem ctl_len (c : St) : (ctl c).length = 64 := by simp [ctl]
theorem ctl_one (c : St) : (ctl c).toArray.all (·.oneCell') = true := by
  rw [List.all_toArray, List.all_eq_true]
  intro v hv
  unfold ctl at hv
  obtain ⟨i, _, rfl⟩ := List.mem_map.1 hv
  rfl
theorem gl_one (c : St) : (gl c).toArray.all (·.oneCell') = true := by
  rw [List.all_toArray, List.all_eq_true]
  intro v hv
  unfold gl gv at hv
  obtain ⟨i, _, rfl⟩ := List.mem_map.1 hv
  rfl
theorem gl_ctl (c : St) : ((gl c).drop 48).take 64 = ctl c := by
  apply List.ext_getElem?
  intro i
  rw [List.getElem?_take, List.getElem?_drop, gl_get, ctl_get]
  by_cases h : i < 64
  · rw [if_pos h, if_pos h, if_pos (by omega)]
    unfold gv
    rw [gk_ctr h]
  · rw [if_neg h, if_neg h]
theorem isz43 : (Tryd.prog.info? 76).map (·.size) = some 64 := by kernel_rfl
theorem isz56 : (Tryd.prog.info? 78).map (·.size) = some 118 := by kernel_rfl
def Z0 : St := fun _ => 0
theorem zero56 (w : World) : (zeroValue 78).run Tryd.prog w = .ok (.agg (gl Z0).toArray) w := by kernel_rfl
end
end Go.Proofs.YtblbgalpkodibaaDoor
