/- Layer 3: instructions; the tables; modes of rounding. -/
import Derived.Test.YtopbdiekfhikmaaD2
import Derived.Deep.WholeRow
namespace Go.Proofs.Ytopbdiekfhikmaa
open Go.RowKit

structure Ins where
  kind : Int
  rd : Int
  rs1 : Int
  rs2 : Int
  rs3 : Int
  rm : Int
  csr : Int
  size : Int
  imm : Int
  ui : Bool
  us : Bool
  wd : Bool
  deriving DecidableEq
def insV (x : Ins) : Value := .agg #[.int .i64 x.kind, .int .i64 x.rd, .int .i64 x.rs1, .int .i64 x.rs2, .int .i64 x.rs3, .int .i64 x.rm, .int .i64 x.csr, .int .i64 x.size, .int .i64 x.imm, .bool x.ui, .bool x.us, .bool x.wd]
def zero : Ins := ⟨0, 0, 0, 0, 0, 0, 0, 0, 0, false, false, false⟩
theorem wpList_built {P : Program} {Q : Exit → Act → World → Prop} {ops : Array Oper} {rest : List Oper} {o : Oper} {a : Act} {w : World} (hg : o.guard = none) (t : TypeId) (parts : Array (Nat × Operand)) (ho : o.op = .build t parts) (cs : Array Value)
    (hf : P.built t (parts.map fun (i, x) => (i, a.eval x)).toList = some cs)
    (h : wpList P ops Q rest (a.put o.dst (.agg cs)) w) : wpList P ops Q (o :: rest) a w :=
  wpList_build hg t parts ho (by rw [hf]; rfl) (by rw [hf]; exact h)
section
variable {w W : World} {g k c : Nat} {o : Obj}
theorem hp_last (hg : g = w.heap.size) : (w.alloc o).heap[g]? = some o := by subst hg; exact heap_alloc_last w o
theorem hp_alloc {o' : Obj} (h : w.heap[g]? = some o) : (w.alloc o').heap[g]? = some o := (Below.heap_alloc w o' g (lt_of_heap' h)).trans h
theorem hp_set {i : Nat} {x : Value} (hk : g ≠ c) (h : w.heap[g]? = some o) : (w.setCell ⟨c, i, none⟩ x).heap[g]? = some o := (Below.heap_setCell w ⟨c, i, none⟩ x g (by simpa using hk)).trans h
theorem hp_drewN {n : Nat} (h : w.heap[g]? = some o) : (w.drewN n).heap[g]? = some o := h
theorem hp_gn (hq : GN w W) (h : w.heap[g]? = some o) : W.heap[g]? = some o := GN.heap hq h
theorem hp_row12 {a0 a1 a2 a3 a4 a5 a6 a7 a8 a9 a10 a11 v0 v1 v2 v3 v4 v5 v6 v7 v8 v9 v10 v11 : Value} (h0 : W.heap[g]? = some (.cells #[a0, a1, a2, a3, a4, a5, a6, a7, a8, a9, a10, a11] 25 (0, 0))) :
    ((((((((((((W.setCell ⟨g, 0, none⟩ v0).setCell ⟨g, 1, none⟩ v1).setCell ⟨g, 2, none⟩ v2).setCell ⟨g, 3, none⟩ v3).setCell ⟨g, 4, none⟩ v4).setCell ⟨g, 5, none⟩ v5).setCell ⟨g, 6, none⟩ v6).setCell ⟨g, 7, none⟩ v7).setCell ⟨g, 8, none⟩ v8).setCell ⟨g, 9, none⟩ v9).setCell ⟨g, 10, none⟩ v10).setCell ⟨g, 11, none⟩ v11).heap[g]? = some (.cells #[v0, v1, v2, v3, v4, v5, v6, v7, v8, v9, v10, v11] 25 (0, 0)) := by
  have h1 : ((W.setCell ⟨g, 0, none⟩ v0)).heap[g]? = some (.cells #[v0, a1, a2, a3, a4, a5, a6, a7, a8, a9, a10, a11] 25 (0, 0)) := heap_set' h0 0 v0
  have h2 : (((W.setCell ⟨g, 0, none⟩ v0).setCell ⟨g, 1, none⟩ v1)).heap[g]? = some (.cells #[v0, v1, a2, a3, a4, a5, a6, a7, a8, a9, a10, a11] 25 (0, 0)) := heap_set' h1 1 v1
  have h3 : ((((W.setCell ⟨g, 0, none⟩ v0).setCell ⟨g, 1, none⟩ v1).setCell ⟨g, 2, none⟩ v2)).heap[g]? = some (.cells #[v0, v1, v2, a3, a4, a5, a6, a7, a8, a9, a10, a11] 25 (0, 0)) := heap_set' h2 2 v2
  have h4 : (((((W.setCell ⟨g, 0, none⟩ v0).setCell ⟨g, 1, none⟩ v1).setCell ⟨g, 2, none⟩ v2).setCell ⟨g, 3, none⟩ v3)).heap[g]? = some (.cells #[v0, v1, v2, v3, a4, a5, a6, a7, a8, a9, a10, a11] 25 (0, 0)) := heap_set' h3 3 v3
  have h5 : ((((((W.setCell ⟨g, 0, none⟩ v0).setCell ⟨g, 1, none⟩ v1).setCell ⟨g, 2, none⟩ v2).setCell ⟨g, 3, none⟩ v3).setCell ⟨g, 4, none⟩ v4)).heap[g]? = some (.cells #[v0, v1, v2, v3, v4, a5, a6, a7, a8, a9, a10, a11] 25 (0, 0)) := heap_set' h4 4 v4
  have h6 : (((((((W.setCell ⟨g, 0, none⟩ v0).setCell ⟨g, 1, none⟩ v1).setCell ⟨g, 2, none⟩ v2).setCell ⟨g, 3, none⟩ v3).setCell ⟨g, 4, none⟩ v4).setCell ⟨g, 5, none⟩ v5)).heap[g]? = some (.cells #[v0, v1, v2, v3, v4, v5, a6, a7, a8, a9, a10, a11] 25 (0, 0)) := heap_set' h5 5 v5
  have h7 : ((((((((W.setCell ⟨g, 0, none⟩ v0).setCell ⟨g, 1, none⟩ v1).setCell ⟨g, 2, none⟩ v2).setCell ⟨g, 3, none⟩ v3).setCell ⟨g, 4, none⟩ v4).setCell ⟨g, 5, none⟩ v5).setCell ⟨g, 6, none⟩ v6)).heap[g]? = some (.cells #[v0, v1, v2, v3, v4, v5, v6, a7, a8, a9, a10, a11] 25 (0, 0)) := heap_set' h6 6 v6
  have h8 : (((((((((W.setCell ⟨g, 0, none⟩ v0).setCell ⟨g, 1, none⟩ v1).setCell ⟨g, 2, none⟩ v2).setCell ⟨g, 3, none⟩ v3).setCell ⟨g, 4, none⟩ v4).setCell ⟨g, 5, none⟩ v5).setCell ⟨g, 6, none⟩ v6).setCell ⟨g, 7, none⟩ v7)).heap[g]? = some (.cells #[v0, v1, v2, v3, v4, v5, v6, v7, a8, a9, a10, a11] 25 (0, 0)) := heap_set' h7 7 v7
  have h9 : ((((((((((W.setCell ⟨g, 0, none⟩ v0).setCell ⟨g, 1, none⟩ v1).setCell ⟨g, 2, none⟩ v2).setCell ⟨g, 3, none⟩ v3).setCell ⟨g, 4, none⟩ v4).setCell ⟨g, 5, none⟩ v5).setCell ⟨g, 6, none⟩ v6).setCell ⟨g, 7, none⟩ v7).setCell ⟨g, 8, none⟩ v8)).heap[g]? = some (.cells #[v0, v1, v2, v3, v4, v5, v6, v7, v8, a9, a10, a11] 25 (0, 0)) := heap_set' h8 8 v8
  have h10 : (((((((((((W.setCell ⟨g, 0, none⟩ v0).setCell ⟨g, 1, none⟩ v1).setCell ⟨g, 2, none⟩ v2).setCell ⟨g, 3, none⟩ v3).setCell ⟨g, 4, none⟩ v4).setCell ⟨g, 5, none⟩ v5).setCell ⟨g, 6, none⟩ v6).setCell ⟨g, 7, none⟩ v7).setCell ⟨g, 8, none⟩ v8).setCell ⟨g, 9, none⟩ v9)).heap[g]? = some (.cells #[v0, v1, v2, v3, v4, v5, v6, v7, v8, v9, a10, a11] 25 (0, 0)) := heap_set' h9 9 v9
  have h11 : ((((((((((((W.setCell ⟨g, 0, none⟩ v0).setCell ⟨g, 1, none⟩ v1).setCell ⟨g, 2, none⟩ v2).setCell ⟨g, 3, none⟩ v3).setCell ⟨g, 4, none⟩ v4).setCell ⟨g, 5, none⟩ v5).setCell ⟨g, 6, none⟩ v6).setCell ⟨g, 7, none⟩ v7).setCell ⟨g, 8, none⟩ v8).setCell ⟨g, 9, none⟩ v9).setCell ⟨g, 10, none⟩ v10)).heap[g]? = some (.cells #[v0, v1, v2, v3, v4, v5, v6, v7, v8, v9, v10, a11] 25 (0, 0)) := heap_set' h10 10 v10
  have h12 : (((((((((((((W.setCell ⟨g, 0, none⟩ v0).setCell ⟨g, 1, none⟩ v1).setCell ⟨g, 2, none⟩ v2).setCell ⟨g, 3, none⟩ v3).setCell ⟨g, 4, none⟩ v4).setCell ⟨g, 5, none⟩ v5).setCell ⟨g, 6, none⟩ v6).setCell ⟨g, 7, none⟩ v7).setCell ⟨g, 8, none⟩ v8).setCell ⟨g, 9, none⟩ v9).setCell ⟨g, 10, none⟩ v10).setCell ⟨g, 11, none⟩ v11)).heap[g]? = some (.cells #[v0, v1, v2, v3, v4, v5, v6, v7, v8, v9, v10, v11] 25 (0, 0)) := heap_set' h11 11 v11
  exact h12
theorem gnt {w w' : World} (h : GN w w' := by (repeat (first | with_reducible exact GN.refl _ | with_reducible assumption | (with_reducible refine GN.set ?_ ?_ _ _; rotate_left; · first | assumption | (simp; done)) | with_reducible refine GN.alloc ?_ _ | with_reducible refine GN.drewN ?_ _))) : GN w w' := h
theorem hpt {W : World} {g : Nat} {o : Obj} (h : W.heap[g]? = some o := by (repeat (first | with_reducible assumption | with_reducible apply hp_row12 | (with_reducible refine hp_last ?_; · simp) | (with_reducible refine hp_set ?_ ?_; · first | assumption | (simp; done)) | with_reducible refine hp_drewN ?_ | with_reducible refine hp_alloc ?_))) : W.heap[g]? = some o := h
theorem fin25 {fn : Func} {Q : Ending → World → Prop} {a : Act} (p : Tmp) (h : fn.results = #[.cell p 25]) (hp : a.tmps.getD p undef = .pointer (some ⟨g, 0, none⟩)) (hd : a.defers = [])
    (hK : ∃ xs, W.heap[g]? = some (.cells xs 25 (0, 0)) ∧ xs.size = 12 ∧ Q (.returned (.agg xs)) W) : bodyPost Try.prog fn Q .ret a W := by
  obtain ⟨xs, hg, hs, hQ⟩ := hK
  exact bodyPost_ret (results_cell_row h _ _ g 25 _ (0, 0) _ hp hg Try.underlying25 rfl (by rw [hs]; kernel_rfl)) hd hQ
theorem c12 {v0 v1 v2 v3 v4 v5 v6 v7 v8 v9 v10 v11 : Value} (h : W.heap[g]? = some (.cells #[v0, v1, v2, v3, v4, v5, v6, v7, v8, v9, v10, v11] 25 (0, 0))) : (W.cell? ⟨g, 0, none⟩ = some v0 ∧ W.frozen? ⟨g, 0, none⟩ = false) ∧ (W.cell? ⟨g, 1, none⟩ = some v1 ∧ W.frozen? ⟨g, 1, none⟩ = false) ∧ (W.cell? ⟨g, 2, none⟩ = some v2 ∧ W.frozen? ⟨g, 2, none⟩ = false) ∧ (W.cell? ⟨g, 3, none⟩ = some v3 ∧ W.frozen? ⟨g, 3, none⟩ = false) ∧ (W.cell? ⟨g, 4, none⟩ = some v4 ∧ W.frozen? ⟨g, 4, none⟩ = false) ∧ (W.cell? ⟨g, 5, none⟩ = some v5 ∧ W.frozen? ⟨g, 5, none⟩ = false) ∧ (W.cell? ⟨g, 6, none⟩ = some v6 ∧ W.frozen? ⟨g, 6, none⟩ = false) ∧ (W.cell? ⟨g, 7, none⟩ = some v7 ∧ W.frozen? ⟨g, 7, none⟩ = false) ∧ (W.cell? ⟨g, 8, none⟩ = some v8 ∧ W.frozen? ⟨g, 8, none⟩ = false) ∧ (W.cell? ⟨g, 9, none⟩ = some v9 ∧ W.frozen? ⟨g, 9, none⟩ = false) ∧ (W.cell? ⟨g, 10, none⟩ = some v10 ∧ W.frozen? ⟨g, 10, none⟩ = false) ∧ (W.cell? ⟨g, 11, none⟩ = some v11 ∧ W.frozen? ⟨g, 11, none⟩ = false) := by
  have key := fun o => cell_blk (xs := [v0, v1, v2, v3, v4, v5, v6, v7, v8, v9, v10, v11]) (T := 25) h o
  exact ⟨key 0, key 1, key 2, key 3, key 4, key 5, key 6, key 7, key 8, key 9, key 10, key 11⟩
end
set_option maxRecDepth 100000 in
theorem branches_any (w : World) : Calls Try.prog 21 #[] w fun r w' => r = .returned (.agg #[.int .i64 5, .int .i64 6, .int .i64 0, .int .i64 0, .int .i64 7, .int .i64 8, .int .i64 9, .int .i64 10]) ∧ ∃ o, w' = w.alloc o := by
  have hz : ∀ w : World, (zeroValue 38).run Try.prog w = .ok (.agg #[.int .i64 0, .int .i64 0, .int .i64 0, .int .i64 0, .int .i64 0, .int .i64 0, .int .i64 0, .int .i64 0]) w := fun w => by kernel_rfl
  go_enter Try.func21, Try.ntmps21
  go_upto_region 1 with fail
  refine wp_region_lit ?_
  refine wpList_built rfl 38 _ rfl #[.int .i64 5, .int .i64 6, .int .i64 0, .int .i64 0, .int .i64 7, .int .i64 8, .int .i64 9, .int .i64 10] (by kernel_rfl) ?_
  refine wpList_store_row rfl 38 _ _ rfl w.heap.size _ rfl rfl 38 _ (heap_alloc_last w _) (by kernel_rfl) rfl (by kernel_rfl) ?_
  rw [World.setRow_alloc_new]
  refine wpList_nil ?_
  go_wp2
  exact bodyPost_ret (results_cell_row rfl _ _ _ 38 _ (0, 0) _ rfl (heap_alloc_last w _) rfl rfl (by kernel_rfl)) rfl ⟨rfl, _, rfl⟩
set_option maxRecDepth 100000 in
theorem sums_any (w : World) : Calls Try.prog 35 #[] w fun r w' => r = .returned (.agg #[.int .i64 13, .int .i64 15, .int .i64 16, .int .i64 17, .int .i64 18, .int .i64 19, .int .i64 21, .int .i64 22]) ∧ ∃ o, w' = w.alloc o := by
  have hz : ∀ w : World, (zeroValue 38).run Try.prog w = .ok (.agg #[.int .i64 0, .int .i64 0, .int .i64 0, .int .i64 0, .int .i64 0, .int .i64 0, .int .i64 0, .int .i64 0]) w := fun w => by kernel_rfl
  go_enter Try.func35, Try.ntmps35
  go_upto_region 1 with fail
  refine wp_region_lit ?_
  refine wpList_built rfl 38 _ rfl #[.int .i64 13, .int .i64 15, .int .i64 16, .int .i64 17, .int .i64 18, .int .i64 19, .int .i64 21, .int .i64 22] (by kernel_rfl) ?_
  refine wpList_store_row rfl 38 _ _ rfl w.heap.size _ rfl rfl 38 _ (heap_alloc_last w _) (by kernel_rfl) rfl (by kernel_rfl) ?_
  rw [World.setRow_alloc_new]
  refine wpList_nil ?_
  go_wp2
  exact bodyPost_ret (results_cell_row rfl _ _ _ 38 _ (0, 0) _ rfl (heap_alloc_last w _) rfl rfl (by kernel_rfl)) rfl ⟨rfl, _, rfl⟩
set_option maxRecDepth 100000 in
theorem products_any (w : World) : Calls Try.prog 37 #[] w fun r w' => r = .returned (.agg #[.int .i64 23, .int .i64 24, .int .i64 25, .int .i64 26, .int .i64 27, .int .i64 28, .int .i64 29, .int .i64 30]) ∧ ∃ o, w' = w.alloc o := by
  have hz : ∀ w : World, (zeroValue 38).run Try.prog w = .ok (.agg #[.int .i64 0, .int .i64 0, .int .i64 0, .int .i64 0, .int .i64 0, .int .i64 0, .int .i64 0, .int .i64 0]) w := fun w => by kernel_rfl
  go_enter Try.func37, Try.ntmps37
  go_upto_region 1 with fail
  refine wp_region_lit ?_
  refine wpList_built rfl 38 _ rfl #[.int .i64 23, .int .i64 24, .int .i64 25, .int .i64 26, .int .i64 27, .int .i64 28, .int .i64 29, .int .i64 30] (by kernel_rfl) ?_
  refine wpList_store_row rfl 38 _ _ rfl w.heap.size _ rfl rfl 38 _ (heap_alloc_last w _) (by kernel_rfl) rfl (by kernel_rfl) ?_
  rw [World.setRow_alloc_new]
  refine wpList_nil ?_
  go_wp2
  exact bodyPost_ret (results_cell_row rfl _ _ _ 38 _ (0, 0) _ rfl (heap_alloc_last w _) rfl rfl (by kernel_rfl)) rfl ⟨rfl, _, rfl⟩
set_option maxRecDepth 100000 in
theorem atomics_any (w : World) : Calls Try.prog 38 #[] w fun r w' => r = .returned (.agg #[.int .i64 41, .int .i64 40, .int .i64 38, .int .i64 39, .int .i64 42, .int .i64 0, .int .i64 0, .int .i64 0, .int .i64 44, .int .i64 0, .int .i64 0, .int .i64 0, .int .i64 43, .int .i64 0, .int .i64 0, .int .i64 0, .int .i64 45, .int .i64 0, .int .i64 0, .int .i64 0, .int .i64 46, .int .i64 0, .int .i64 0, .int .i64 0, .int .i64 47, .int .i64 0, .int .i64 0, .int .i64 0, .int .i64 48, .int .i64 0, .int .i64 0, .int .i64 0]) ∧ ∃ o, w' = w.alloc o := by
  have hz : ∀ w : World, (zeroValue 52).run Try.prog w = .ok (.agg #[.int .i64 0, .int .i64 0, .int .i64 0, .int .i64 0, .int .i64 0, .int .i64 0, .int .i64 0, .int .i64 0, .int .i64 0, .int .i64 0, .int .i64 0, .int .i64 0, .int .i64 0, .int .i64 0, .int .i64 0, .int .i64 0, .int .i64 0, .int .i64 0, .int .i64 0, .int .i64 0, .int .i64 0, .int .i64 0, .int .i64 0, .int .i64 0, .int .i64 0, .int .i64 0, .int .i64 0, .int .i64 0, .int .i64 0, .int .i64 0, .int .i64 0, .int .i64 0]) w := fun w => by kernel_rfl
  go_enter Try.func38, Try.ntmps38
  go_upto_region 1 with fail
  refine wp_region_lit ?_
  refine wpList_built rfl 52 _ rfl #[.int .i64 41, .int .i64 40, .int .i64 38, .int .i64 39, .int .i64 42, .int .i64 0, .int .i64 0, .int .i64 0, .int .i64 44, .int .i64 0, .int .i64 0, .int .i64 0, .int .i64 43, .int .i64 0, .int .i64 0, .int .i64 0, .int .i64 45, .int .i64 0, .int .i64 0, .int .i64 0, .int .i64 46, .int .i64 0, .int .i64 0, .int .i64 0, .int .i64 47, .int .i64 0, .int .i64 0, .int .i64 0, .int .i64 48, .int .i64 0, .int .i64 0, .int .i64 0] (by kernel_rfl) ?_
  refine wpList_store_row rfl 52 _ _ rfl w.heap.size _ rfl rfl 52 _ (heap_alloc_last w _) (by kernel_rfl) rfl (by kernel_rfl) ?_
  rw [World.setRow_alloc_new]
  refine wpList_nil ?_
  go_wp2
  exact bodyPost_ret (results_cell_row rfl _ _ _ 52 _ (0, 0) _ rfl (heap_alloc_last w _) rfl rfl (by kernel_rfl)) rfl ⟨rfl, _, rfl⟩
set_option maxRecDepth 100000 in
set_option maxHeartbeats 2000000 in
theorem loads_any (w : World) : Calls Try.prog 24 #[] w fun r w' => r = .returned (.agg #[.int .i64 11, .int .i64 1, .bool false, .int .i64 11, .int .i64 2, .bool false, .int .i64 11, .int .i64 4, .bool false, .int .i64 11, .int .i64 8, .bool false, .int .i64 11, .int .i64 1, .bool true, .int .i64 11, .int .i64 2, .bool true, .int .i64 11, .int .i64 4, .bool true, .int .i64 0, .int .i64 0, .bool false]) ∧ ∃ o, w' = w.alloc o := by
  have hz : ∀ w : World, (zeroValue 42).run Try.prog w = .ok (.agg #[.int .i64 0, .int .i64 0, .bool false, .int .i64 0, .int .i64 0, .bool false, .int .i64 0, .int .i64 0, .bool false, .int .i64 0, .int .i64 0, .bool false, .int .i64 0, .int .i64 0, .bool false, .int .i64 0, .int .i64 0, .bool false, .int .i64 0, .int .i64 0, .bool false, .int .i64 0, .int .i64 0, .bool false]) w := fun w => by kernel_rfl
  go_enter Try.func24, Try.ntmps24
  go_upto_region 1 with fail
  refine wp_region_lit ?_
  refine wpList_built rfl 41 _ rfl #[.int .i64 11, .int .i64 1, .bool false] (by kernel_rfl) ?_
  refine wpList_built rfl 41 _ rfl #[.int .i64 11, .int .i64 2, .bool false] (by kernel_rfl) ?_
  refine wpList_built rfl 41 _ rfl #[.int .i64 11, .int .i64 4, .bool false] (by kernel_rfl) ?_
  refine wpList_built rfl 41 _ rfl #[.int .i64 11, .int .i64 8, .bool false] (by kernel_rfl) ?_
  refine wpList_built rfl 41 _ rfl #[.int .i64 11, .int .i64 1, .bool true] (by kernel_rfl) ?_
  refine wpList_built rfl 41 _ rfl #[.int .i64 11, .int .i64 2, .bool true] (by kernel_rfl) ?_
  refine wpList_built rfl 41 _ rfl #[.int .i64 11, .int .i64 4, .bool true] (by kernel_rfl) ?_
  refine wpList_built rfl 42 _ rfl #[.int .i64 11, .int .i64 1, .bool false, .int .i64 11, .int .i64 2, .bool false, .int .i64 11, .int .i64 4, .bool false, .int .i64 11, .int .i64 8, .bool false, .int .i64 11, .int .i64 1, .bool true, .int .i64 11, .int .i64 2, .bool true, .int .i64 11, .int .i64 4, .bool true, .int .i64 0, .int .i64 0, .bool false] (by kernel_rfl) ?_
  refine wpList_store_row rfl 42 (.tmp 0) (.tmp 8) rfl w.heap.size #[.int .i64 11, .int .i64 1, .bool false, .int .i64 11, .int .i64 2, .bool false, .int .i64 11, .int .i64 4, .bool false, .int .i64 11, .int .i64 8, .bool false, .int .i64 11, .int .i64 1, .bool true, .int .i64 11, .int .i64 2, .bool true, .int .i64 11, .int .i64 4, .bool true, .int .i64 0, .int .i64 0, .bool false] (by kernel_rfl) (by kernel_rfl) 42 _ (heap_alloc_last w _) (by kernel_rfl) rfl (by kernel_rfl) ?_
  rw [World.setRow_alloc_new]
  refine wpList_nil ?_
  go_wp2
  exact bodyPost_ret (results_cell_row rfl _ _ _ 42 _ (0, 0) _ rfl (heap_alloc_last w _) rfl rfl (by kernel_rfl)) rfl ⟨rfl, _, rfl⟩
def roundN (f : Nat) (x : Ins) : Ins := if f = 5 ∨ f = 6 then zero else {x with rm := (f : Int)}
set_option maxRecDepth 100000 in
set_option maxHeartbeats 2000000 in
theorem rounded_any (b : Nat) (hb : b < 4294967296) (x : Ins) (w : World) : Calls Try.prog 39 #[.int .u32 b, insV x] w fun r w' => r = .returned (insV (roundN (fd b 12 3) x)) ∧ GN w w' := by
  have h5 : fd b 12 3 = 5 ∨ fd b 12 3 = 6 ∨ (((fd b 12 3 : Nat) : Int) == 5) = false ∧ (((fd b 12 3 : Nat) : Int) == 6) = false ∧ ¬ (fd b 12 3 = 5 ∨ fd b 12 3 = 6) := by
    simp only [beq_eq_false_iff_ne]; omega
  obtain ⟨kind, rd, rs1, rs2, rs3, rm, csr, size, imm, ui, us, wd⟩ := x
  obtain ⟨f, hf⟩ : ∃ f, fd b 12 3 = f := ⟨_, rfl⟩
  rw [hf] at h5 ⊢
  unfold insV
  go_enter Try.func39, Try.ntmps39
  go_upto_region 2 with (go_at_call 18; refine (f3_any _ (by assumption) _).mono ?_; rintro _ _ ⟨rfl, m_, rfl⟩)
  rcases h5 with rfl | rfl | ⟨h5, h6, hn⟩
  · go_wp2
    refine fin25 4 rfl rfl rfl ⟨_, by (repeat (first | with_reducible assumption | with_reducible apply hp_row12 | (with_reducible refine hp_last ?_; · simp) | (with_reducible refine hp_set ?_ ?_; · simp) | with_reducible refine hp_drewN ?_ | with_reducible refine hp_alloc ?_)), rfl, ?_, ?_⟩
    · rfl
    · (repeat (first | with_reducible exact GN.refl _ | (with_reducible refine GN.set ?_ ?_ _ _; rotate_left; · simp) | with_reducible refine GN.alloc ?_ _ | with_reducible refine GN.drewN ?_ _))
  · go_wp2
    refine fin25 4 rfl rfl rfl ⟨_, by (repeat (first | with_reducible assumption | with_reducible apply hp_row12 | (with_reducible refine hp_last ?_; · simp) | (with_reducible refine hp_set ?_ ?_; · simp) | with_reducible refine hp_drewN ?_ | with_reducible refine hp_alloc ?_)), rfl, ?_, ?_⟩
    · rfl
    · (repeat (first | with_reducible exact GN.refl _ | (with_reducible refine GN.set ?_ ?_ _ _; rotate_left; · simp) | with_reducible refine GN.alloc ?_ _ | with_reducible refine GN.drewN ?_ _))
  · have hn := hide hn
    go_wp2
    refine fin25 4 rfl rfl rfl ⟨_, by (repeat (first | with_reducible assumption | with_reducible apply hp_row12 | (with_reducible refine hp_last ?_; · simp) | (with_reducible refine hp_set ?_ ?_; · simp) | with_reducible refine hp_drewN ?_ | with_reducible refine hp_alloc ?_)), rfl, ?_, ?_⟩
    · unfold roundN; rw [if_neg (unhide hn)]
    · (repeat (first | with_reducible exact GN.refl _ | (with_reducible refine GN.set ?_ ?_ _ _; rotate_left; · simp) | with_reducible refine GN.alloc ?_ _ | with_reducible refine GN.drewN ?_ _))
end Go.Proofs.Ytopbdiekfhikmaa
