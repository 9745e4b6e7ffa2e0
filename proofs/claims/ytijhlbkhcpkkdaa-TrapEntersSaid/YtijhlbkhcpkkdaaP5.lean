/- Layer 13: what is fixed. -/
import Derived.Test.YtijhlbkhcpkkdaaP4
namespace Go.Proofs.Ytijhlbkhcpkkdaa
open Go.RowKit

theorem there_new (w : World) (Z : Array Value) (T : TypeId) {n : Nat} (hz : Z.size = n) : (w.alloc (.cells Z T)).there w.heap.size 0 n := fun j hj => by
  have hh := heap_new' w (.cells Z T)
  unfold World.cell? World.frozen?
  simp only [hh, Nat.zero_add, Array.getElem?_eq_getElem (show j < Z.size by omega)]
  simp
theorem Heap.clone {w0 w : World} {L : List HP} (h : Heap w0 w L) (Z : Array Value) (T : TypeId) (xs : List Value) (hz : Z.size = xs.length) : Heap w0 ((w.alloc (.cells Z T)).setCells w.heap.size 0 xs) (HP.blk w.heap.size xs.toArray T :: L) := by
  have h1 := h.new Z T
  have e : Z = Z.toList.toArray := by simp
  rw [e] at h1
  have h2 := h1.sets xs 0
  rw [setL_all _ _ (by simpa using hz.symm)] at h2
  simpa using h2
def one (i : Nat) (x : Int) : St := upd Z0 i x
theorem Z0_inv : GI Z0 := ⟨fun _ _ => by unfold Z0; omega, fun _ _ _ => by unfold Z0; omega⟩
def k1 : St := one 1 4097
def k2 : St := upd (one 0 133248) 6 68
def k3 : St := one 4 2184
def k4 : St := one 4 8
theorem k1_inv : GI k1 := Z0_inv.upd 1 (by omega) (by decide) (by decide)
theorem k2_inv : GI k2 := (Z0_inv.upd 0 (by omega) (by decide) (by decide)).upd 6 (by omega) (by decide) (by decide)
theorem k3_inv : GI k3 := Z0_inv.upd 4 (by omega) (by decide) (by decide)
theorem k4_inv : GI k4 := Z0_inv.upd 4 (by omega) (by decide) (by decide)
theorem b1 (w : World) : (Instr.build 26 #[(1, .int .u64 4097)]).run Try.prog w = .ok (.agg (gl k1).toArray) w := by kernel_rfl
theorem b2 (w : World) : (Instr.build 26 #[(0, .int .u64 133248), (6, .int .u64 68)]).run Try.prog w = .ok (.agg (gl k2).toArray) w := by kernel_rfl
theorem b3 (w : World) : (Instr.build 26 #[(4, .int .u64 2184)]).run Try.prog w = .ok (.agg (gl k3).toArray) w := by kernel_rfl
theorem b4 (w : World) : (Instr.build 26 #[(4, .int .u64 8)]).run Try.prog w = .ok (.agg (gl k4).toArray) w := by kernel_rfl
def D1 : St := eMach k1 (known 0) 2147483652 9223372036854775815 5
def D2 : St := (rOut k2 49).1
theorem ns1 : ¬ sup k1 0 9223372036854775815 := by
  intro h
  have h2 : given k1 9223372036854775815 = 0 := by kernel_rfl
  have := h.2
  rw [h2] at this
  simp at this
theorem v1 : vector (k1 1) 9223372036854775815 = 4124 := by kernel_rfl
theorem r2 : (rOut k2 49).2 = (1, 68) := by kernel_rfl
theorem p3 : pend (pk k3 0 2176) (pg k3 0 2176) = some 11 := by kernel_rfl
theorem w4 : (pp k4 128 == 0) = true := by kernel_rfl
theorem D1_6 : D1 6 = 2147483652 := by kernel_rfl
theorem D1_8 : D1 8 = 5 := by kernel_rfl
theorem D2_0 : D2 0 = 136 := by kernel_rfl
section
variable {w0 w : World} {L : List HP} {b : Nat}
set_option maxRecDepth 100000 in
set_option maxHeartbeats 1000000 in
theorem awake_h (H0 : Heap w0 w L) : Calls Try.prog 8 #[] w fun r w' => r = .returned (.bool true) ∧ Heap w0 w' L := by
  have hs1 : (gl Z0).set 1 (.int .u64 4097) = gl k1 := gl_set Z0 1 4097
  have hs2 : ((gl Z0).set 0 (.int .u64 133248)).set 6 (.int .u64 68) = gl k2 := by
    rw [show (gl Z0).set 0 (.int .u64 133248) = gl (one 0 133248) from gl_set Z0 0 133248]
    exact gl_set _ 6 68
  have hs3 : (gl Z0).set 4 (.int .u64 2184) = gl k3 := gl_set Z0 4 2184
  have hs4 : (gl Z0).set 4 (.int .u64 8) = gl k4 := gl_set Z0 4 8
  have hz := zero26
  have hlen : (gl Z0).length = 38 := gl_len Z0
  go_enter Try.func8, Try.ntmps8
  go_wp2_with fail
  try rw [hs1]
  refine (enter_h H0 k1_inv 0 2147483652 9223372036854775815 5 (by decide) (by decide) (by decide) (by decide) (by decide) (by decide)).mono ?_
  rintro r wa ⟨hr, ha⟩
  have hr : r = .returned (.tuple #[.agg (gl D1).toArray, .int .i64 3, .int .u64 4124]) := by
    rcases hr with ⟨hs, _⟩ | ⟨_, hr⟩
    · exact absurd hs ns1
    · rw [hr, v1]; rfl
  subst hr
  go_wp2_with (refine wpList_store_mid rfl 26 (.tmp 1) (.tmp 12) rfl wa.heap.size 0 (gl D1).toArray rfl rfl ?_ (by rw [List.size_toArray, gl_len]; exact isz26) (gl_one _) ?_
               rotate_left
               refine unhide ?_)
  rotate_left
  · exact there_new _ _ _ (by rw [List.size_toArray, List.size_toArray, gl_len, gl_len])
  have h1 := ha.clone (gl Z0).toArray 26 (gl D1) (by rw [List.size_toArray, gl_len, gl_len])
  change Hid (wpList _ _ _ _ _ (((wa.alloc (.cells (gl Z0).toArray 26)).setCells wa.heap.size 0 (gl D1))))
  generalize (wa.alloc (.cells (gl Z0).toArray 26)).setCells wa.heap.size 0 (gl D1) = was at *
  generalize wa.heap.size = bA at *
  refine hide ?_

  go_wp2_with fail
  try rw [hs2]
  refine (return_h h1 k2_inv 49).mono ?_
  rintro r wb ⟨rfl, hb⟩
  rw [r2]
  change Heap w0 wb _ at hb
  generalize hd2 : (rOut k2 49).1 = d2
  have hd2 : D2 = d2 := hd2
  subst hd2
  go_wp2_with (refine wpList_store_mid rfl 26 (.tmp 4) (.tmp 18) rfl wb.heap.size 0 (gl D2).toArray rfl rfl ?_ (by rw [List.size_toArray, gl_len]; exact isz26) (gl_one _) ?_
               rotate_left
               refine unhide ?_)
  rotate_left
  · exact there_new _ _ _ (by rw [List.size_toArray, List.size_toArray, gl_len, gl_len])
  have h2 := hb.clone (gl Z0).toArray 26 (gl D2) (by rw [List.size_toArray, gl_len, gl_len])
  change Hid (wpList _ _ _ _ _ (((wb.alloc (.cells (gl Z0).toArray 26)).setCells wb.heap.size 0 (gl D2))))
  generalize (wb.alloc (.cells (gl Z0).toArray 26)).setCells wb.heap.size 0 (gl D2) = wbs at *
  generalize wb.heap.size = bB at *
  refine hide ?_

  go_wp2_with fail
  try rw [hs3]
  refine (pending_h h2 k3_inv 0 2176 (by decide) (by decide)).mono ?_
  rintro r wc ⟨rfl, hc⟩
  rw [p3]
  have e1 : pVal (some 11) = 9223372036854775819 := by decide
  have e2 : (some 11 : Option Nat).isSome = true := rfl
  rw [e1, e2]
  have l2 := lt_of_heap' hc.heap
  have l1 := lt_of_heap' hc.f2.heap
  have c20 := (gcell hc.heap (i := 0) (by omega)).1
  rw [D2_0, show gk 0 = .u64 from rfl] at c20
  have c16 := (gcell hc.f2.heap (i := 6) (by omega)).1
  rw [D1_6, show gk 6 = .u64 from rfl] at c16
  have c18 := (gcell hc.f2.heap (i := 8) (by omega)).1
  rw [D1_8, show gk 8 = .u64 from rfl] at c18
  clear h1 h2 ha hb e1 e2
  go_wp2_with fail
  try rw [hs4]
  refine (waits_h hc k4_inv 128 (by decide) (by decide)).mono ?_
  rintro r wd ⟨rfl, hd⟩
  rw [w4]
  go_wp2
  go_ret
  exact ⟨rfl, hd.tail.tail⟩
end
end Go.Proofs.Ytijhlbkhcpkkdaa
