/- Layer 20: same, of any two items. -/
import Derived.Test.YtblbgalpkodibaaDoorH3
import Derived.Test.YtblbgalpkodibaaDoorRegion
namespace Go.Proofs.YtblbgalpkodibaaDoor
open Go.RowKit
theorem run_eq22t {x y : Int} (e : x = y) (w : World) : (binOp .eql 22 (.int .u64 x) (.int .u64 y)).run Tryd.prog w = .ok (.bool true) w := by
  have h : (binOp .eql 22 (.int .u64 x) (.int .u64 y)).run Tryd.prog w = .ok (.bool (x == y)) w := by kernel_rfl
  rw [h, e]; simp
theorem run_eq22f {x y : Int} (e : x ≠ y) (w : World) : (binOp .eql 22 (.int .u64 x) (.int .u64 y)).run Tryd.prog w = .ok (.bool false) w := by
  have h : (binOp .eql 22 (.int .u64 x) (.int .u64 y)).run Tryd.prog w = .ok (.bool (x == y)) w := by kernel_rfl
  rw [h, beq_eq_false_iff_ne.2 e]
theorem run_eq33t {x y : Int} (e : x = y) (w : World) : (binOp .eql 33 (.int .u32 x) (.int .u32 y)).run Tryd.prog w = .ok (.bool true) w := by
  have h : (binOp .eql 33 (.int .u32 x) (.int .u32 y)).run Tryd.prog w = .ok (.bool (x == y)) w := by kernel_rfl
  rw [h, e]; simp
theorem run_eq33f {x y : Int} (e : x ≠ y) (w : World) : (binOp .eql 33 (.int .u32 x) (.int .u32 y)).run Tryd.prog w = .ok (.bool false) w := by
  have h : (binOp .eql 33 (.int .u32 x) (.int .u32 y)).run Tryd.prog w = .ok (.bool (x == y)) w := by kernel_rfl
  rw [h, beq_eq_false_iff_ne.2 e]
theorem run_eq3t {x y : Int} (e : x = y) (w : World) : (binOp .eql 3 (.int .i64 x) (.int .i64 y)).run Tryd.prog w = .ok (.bool true) w := by
  have h : (binOp .eql 3 (.int .i64 x) (.int .i64 y)).run Tryd.prog w = .ok (.bool (x == y)) w := by kernel_rfl
  rw [h, e]; simp
theorem run_eq3f {x y : Int} (e : x ≠ y) (w : World) : (binOp .eql 3 (.int .i64 x) (.int .i64 y)).run Tryd.prog w = .ok (.bool false) w := by
  have h : (binOp .eql 3 (.int .i64 x) (.int .i64 y)).run Tryd.prog w = .ok (.bool (x == y)) w := by kernel_rfl
  rw [h, beq_eq_false_iff_ne.2 e]
def ksM : List (Option IntKind) := [some .u64, some .u64, some .u64, some .u64, some .i64, some .u64]
theorem flat36 : flat Tryd.prog 8 36 = some ksM := by kernel_rfl
theorem named36 : named Tryd.prog 8 36 = true := by kernel_rfl
theorem kt36 : Tryd.prog.keyTypeAt 8 36 = true := by kernel_rfl
theorem formed36 (x : It) : (Value.agg #[.int .u64 (x.m 112), .int .u64 (x.m 113), .int .u64 (x.m 114), .int .u64 (x.m 115), .int .i64 (x.m 116), .int .u64 (x.m 117)]).formed Tryd.prog 36 = true := by kernel_rfl
theorem fits_mk {x : It} (h : II x) : Fits ksM [.int .u64 (x.m 112), .int .u64 (x.m 113), .int .u64 (x.m 114), .int .u64 (x.m 115), .int .i64 (x.m 116), .int .u64 (x.m 117)] := by
  have hk := h.mrk.size
  have hh := h.mrk.hist
  exact ⟨⟨_, rfl, wf_u64 (h.mrk.stk 0 (by omega))⟩, ⟨_, rfl, wf_u64 (h.mrk.stk 1 (by omega))⟩, ⟨_, rfl, wf_u64 (h.mrk.stk 2 (by omega))⟩, ⟨_, rfl, wf_u64 (h.mrk.stk 3 (by omega))⟩, ⟨_, rfl, wf_i64 (by omega)⟩, ⟨_, rfl, wf_u64 (by omega)⟩, trivial⟩
theorem eql36t {x y : It} (h : II x) (_ : II y) (e : [.int .u64 (x.m 112), .int .u64 (x.m 113), .int .u64 (x.m 114), .int .u64 (x.m 115), .int .i64 (x.m 116), .int .u64 (x.m 117)] = ([.int .u64 (y.m 112), .int .u64 (y.m 113), .int .u64 (y.m 114), .int .u64 (y.m 115), .int .i64 (y.m 116), .int .u64 (y.m 117)] : List Value)) (w : World) : (binOp .eql 36 (.agg #[.int .u64 (x.m 112), .int .u64 (x.m 113), .int .u64 (x.m 114), .int .u64 (x.m 115), .int .i64 (x.m 116), .int .u64 (x.m 117)]) (.agg #[.int .u64 (y.m 112), .int .u64 (y.m 113), .int .u64 (y.m 114), .int .u64 (y.m 115), .int .i64 (y.m 116), .int .u64 (y.m 117)])).run Tryd.prog w = .ok (.bool true) w := by
  have h1 : (#[.int .u64 (y.m 112), .int .u64 (y.m 113), .int .u64 (y.m 114), .int .u64 (y.m 115), .int .i64 (y.m 116), .int .u64 (y.m 117)] : Array Value) = #[.int .u64 (x.m 112), .int .u64 (x.m 113), .int .u64 (x.m 114), .int .u64 (x.m 115), .int .i64 (x.m 116), .int .u64 (x.m 117)] := (congrArg List.toArray e).symm
  rw [h1]
  exact run_eql_same flat36 named36 kt36 (formed36 x) (fits_mk h)
theorem eql36f {x y : It} (h : II x) (k : II y) (e : [.int .u64 (x.m 112), .int .u64 (x.m 113), .int .u64 (x.m 114), .int .u64 (x.m 115), .int .i64 (x.m 116), .int .u64 (x.m 117)] ≠ ([.int .u64 (y.m 112), .int .u64 (y.m 113), .int .u64 (y.m 114), .int .u64 (y.m 115), .int .i64 (y.m 116), .int .u64 (y.m 117)] : List Value)) (w : World) : (binOp .eql 36 (.agg #[.int .u64 (x.m 112), .int .u64 (x.m 113), .int .u64 (x.m 114), .int .u64 (x.m 115), .int .i64 (x.m 116), .int .u64 (x.m 117)]) (.agg #[.int .u64 (y.m 112), .int .u64 (y.m 113), .int .u64 (y.m 114), .int .u64 (y.m 115), .int .i64 (y.m 116), .int .u64 (y.m 117)])).run Tryd.prog w = .ok (.bool false) w :=
  run_eql_diff flat36 named36 kt36 (formed36 x) (formed36 y) (fits_mk h) (fits_mk k) (fun q => e (congrArg Array.toList q))
theorem eqg36 {op : BinOp} {x y : Operand} {A B : Array Value} {v : Value} {w : World} (h : (binOp op 36 (.agg A) (.agg B)).run Tryd.prog w = .ok v w) : (do eqGuard op 36 x y (.agg A) (.agg B); binOp op 36 (.agg A) (.agg B) : Sem Value).run Tryd.prog w = .ok v w := by
  simp only [Sem.run_bind, run_eqGuard_agg (P := Tryd.prog) w op 36 x y A B (by kernel_rfl), Result.andThen_ok, h]
section
variable {w0 w w' : World} {L : List HP} {b g : Nat} {F : Fr} {c : St}
set_option maxRecDepth 100000 in
set_option maxHeartbeats 4000000 in
theorem same_d0 {x y : It} (hx : II x) (hy : II y) (h0 : Hid (x.pc ≠ y.pc)) (w : World) :
    Calls Tryd.prog 24 #[.agg (itl x).toArray, .agg (itl y).toArray] w fun r w' => r = .returned (.bool false) ∧ GN w w' := by
  have J := ((Heap.nil w).new (itl x).toArray 38).new (itl y).toArray 61
  obtain ⟨k1, hk1⟩ : ∃ k, w.heap.size = k := ⟨_, rfl⟩
  simp only [World.size_alloc, hk1] at J
  have H := hide J
  have Hx := hide hx
  have Hy := hide hy
  clear J hx hy
  go_enter Tryd.func24, Tryd.ntmps24
  go_upto_region 1 with fail
  have J := unhide H
  obtain ⟨k2, hk2⟩ : ∃ k, k1 + 1 = k := ⟨_, rfl⟩
  rw [hk2] at J ⊢
  generalize (w.alloc (.cells (itl x).toArray 38)).alloc (.cells (itl y).toArray 61) = w2 at J ⊢
  have H1 := hide (Heap.heap J.f2)
  have H2 := hide (Heap.heap J)
  have HG := hide (gn_of_below J.below)
  clear H J hk1 hk2
  refine wp_list_O (fun w_ => GN w2 w_) GN (fun k_ v_ w_ => match k_ with
      | 0 => v_ = .pointer (some ⟨k1, 0 + 0, none⟩)
      | 1 => v_ = .int .u64 x.pc
      | 2 => v_ = .pointer (some ⟨k2, 0 + 0, none⟩)
      | 3 => v_ = .int .u64 y.pc
      | 4 => v_ = .bool false
      | 5 => v_ = .bool false
      | 6 => v_ = undef
      | 7 => v_ = undef
      | 8 => v_ = undef
      | 9 => v_ = undef
      | 10 => v_ = undef
      | 11 => v_ = .bool false
      | 12 => v_ = .bool false
      | 13 => v_ = undef
      | 14 => v_ = undef
      | 15 => v_ = undef
      | 16 => v_ = undef
      | 17 => v_ = undef
      | 18 => v_ = .bool false
      | 19 => v_ = .bool false
      | 20 => v_ = undef
      | 21 => v_ = undef
      | 22 => v_ = undef
      | 23 => v_ = undef
      | 24 => v_ = undef
      | 25 => v_ = .bool false
      | 26 => v_ = .bool false
      | 27 => v_ = undef
      | 28 => v_ = undef
      | 29 => v_ = undef
      | 30 => v_ = undef
      | 31 => v_ = undef
      | 32 => v_ = .bool false
      | 33 => v_ = .bool false
      | 34 => v_ = undef
      | 35 => v_ = undef
      | 36 => v_ = undef
      | 37 => v_ = undef
      | 38 => v_ = undef
      | 39 => v_ = .bool false
      | 40 => v_ = .bool false
      | 41 => v_ = undef
      | 42 => v_ = undef
      | 43 => v_ = undef
      | 44 => v_ = undef
      | 45 => v_ = undef
      | 46 => v_ = .bool false
      | 47 => v_ = .bool false
      | 48 => v_ = undef
      | 49 => v_ = undef
      | 50 => v_ = undef
      | 51 => v_ = undef
      | 52 => v_ = undef
      | 53 => v_ = undef
      | 54 => v_ = undef
      | 55 => v_ = undef
      | 56 => v_ = undef
      | 57 => v_ = undef
      | 58 => v_ = .bool false
      | _ => v_ = .bool false) ?_ ?_ GN.refl ?_ ?_
  · exact GN.refl w2
  · intro k_ v_ w_ w2_ h1 hg
    split at h1 <;> exact h1
  · intro vals
    show wpO _ _ _ _ _ _ 0 (_ :: _) _
    refine wpO_cons (oval (.pointer (some ⟨k1, 0 + 0, none⟩)) GN.refl fun w_ hJ hd => ?_) ?_
    · exact ⟨by kernel_rfl, by kernel_rfl, rfl⟩
    refine wpO_cons (oop (Instr.loadAt 22 (.pointer (some ⟨k1, 0 + 0, none⟩))) (.int .u64 x.pc) GN.refl fun w_ hJ hd => ?_) ?_
    · have e0 : vals 0 = _ := hd 0 (by decide)
      rw [e0]
      exact ⟨by kernel_rfl, by kernel_rfl, run_load1 (by kernel_rfl) (cell_blk (hJ.heap (unhide H1)) 0).1, rfl⟩
    refine wpO_cons (oval (.pointer (some ⟨k2, 0 + 0, none⟩)) GN.refl fun w_ hJ hd => ?_) ?_
    · exact ⟨by kernel_rfl, by kernel_rfl, rfl⟩
    refine wpO_cons (oop (Instr.loadAt 22 (.pointer (some ⟨k2, 0 + 0, none⟩))) (.int .u64 y.pc) GN.refl fun w_ hJ hd => ?_) ?_
    · have e2 : vals 2 = _ := hd 2 (by decide)
      rw [e2]
      exact ⟨by kernel_rfl, by kernel_rfl, run_load1 (by kernel_rfl) (cell_blk (hJ.heap (unhide H2)) 0).1, rfl⟩
    refine wpO_cons (oop (binOp .eql 22 (.int .u64 x.pc) (.int .u64 y.pc)) (.bool false) GN.refl fun w_ hJ hd => ?_) ?_
    · have e1 : vals 1 = _ := hd 1 (by decide)
      have e3 : vals 3 = _ := hd 3 (by decide)
      rw [e1, e3]
      exact ⟨by kernel_rfl, by kernel_rfl, run_eq22f (unhide h0) w_, rfl⟩
    refine wpO_cons (oval (.bool false) GN.refl fun w_ hJ hd => ?_) ?_
    · have e4 : vals 4 = _ := hd 4 (by decide)
      rw [e4]
      exact ⟨by kernel_rfl, by kernel_rfl, rfl⟩
    refine wpO_cons (oskip fun w_ hJ hd => ?_) ?_
    · have e5 : vals 5 = _ := hd 5 (by decide)
      rw [e5]
      exact ⟨by kernel_rfl, rfl⟩
    refine wpO_cons (oskip fun w_ hJ hd => ?_) ?_
    · have e5 : vals 5 = _ := hd 5 (by decide)
      rw [e5]
      exact ⟨by kernel_rfl, rfl⟩
    refine wpO_cons (oskip fun w_ hJ hd => ?_) ?_
    · have e5 : vals 5 = _ := hd 5 (by decide)
      rw [e5]
      exact ⟨by kernel_rfl, rfl⟩
    refine wpO_cons (oskip fun w_ hJ hd => ?_) ?_
    · have e5 : vals 5 = _ := hd 5 (by decide)
      rw [e5]
      exact ⟨by kernel_rfl, rfl⟩
    refine wpO_cons (oskip fun w_ hJ hd => ?_) ?_
    · have e5 : vals 5 = _ := hd 5 (by decide)
      rw [e5]
      exact ⟨by kernel_rfl, rfl⟩
    refine wpO_cons (oval (.bool false) GN.refl fun w_ hJ hd => ?_) ?_
    · have e5 : vals 5 = _ := hd 5 (by decide)
      have e10 : vals 10 = _ := hd 10 (by decide)
      rw [e5, e10]
      exact ⟨by kernel_rfl, by kernel_rfl, rfl⟩
    refine wpO_cons (oval (.bool false) GN.refl fun w_ hJ hd => ?_) ?_
    · have e11 : vals 11 = _ := hd 11 (by decide)
      rw [e11]
      exact ⟨by kernel_rfl, by kernel_rfl, rfl⟩
    refine wpO_cons (oskip fun w_ hJ hd => ?_) ?_
    · have e12 : vals 12 = _ := hd 12 (by decide)
      rw [e12]
      exact ⟨by kernel_rfl, rfl⟩
    refine wpO_cons (oskip fun w_ hJ hd => ?_) ?_
    · have e12 : vals 12 = _ := hd 12 (by decide)
      rw [e12]
      exact ⟨by kernel_rfl, rfl⟩
    refine wpO_cons (oskip fun w_ hJ hd => ?_) ?_
    · have e12 : vals 12 = _ := hd 12 (by decide)
      rw [e12]
      exact ⟨by kernel_rfl, rfl⟩
    refine wpO_cons (oskip fun w_ hJ hd => ?_) ?_
    · have e12 : vals 12 = _ := hd 12 (by decide)
      rw [e12]
      exact ⟨by kernel_rfl, rfl⟩
    refine wpO_cons (oskip fun w_ hJ hd => ?_) ?_
    · have e12 : vals 12 = _ := hd 12 (by decide)
      rw [e12]
      exact ⟨by kernel_rfl, rfl⟩
    refine wpO_cons (oval (.bool false) GN.refl fun w_ hJ hd => ?_) ?_
    · have e12 : vals 12 = _ := hd 12 (by decide)
      have e17 : vals 17 = _ := hd 17 (by decide)
      rw [e12, e17]
      exact ⟨by kernel_rfl, by kernel_rfl, rfl⟩
    refine wpO_cons (oval (.bool false) GN.refl fun w_ hJ hd => ?_) ?_
    · have e18 : vals 18 = _ := hd 18 (by decide)
      rw [e18]
      exact ⟨by kernel_rfl, by kernel_rfl, rfl⟩
    refine wpO_cons (oskip fun w_ hJ hd => ?_) ?_
    · have e19 : vals 19 = _ := hd 19 (by decide)
      rw [e19]
      exact ⟨by kernel_rfl, rfl⟩
    refine wpO_cons (oskip fun w_ hJ hd => ?_) ?_
    · have e19 : vals 19 = _ := hd 19 (by decide)
      rw [e19]
      exact ⟨by kernel_rfl, rfl⟩
    refine wpO_cons (oskip fun w_ hJ hd => ?_) ?_
    · have e19 : vals 19 = _ := hd 19 (by decide)
      rw [e19]
      exact ⟨by kernel_rfl, rfl⟩
    refine wpO_cons (oskip fun w_ hJ hd => ?_) ?_
    · have e19 : vals 19 = _ := hd 19 (by decide)
      rw [e19]
      exact ⟨by kernel_rfl, rfl⟩
    refine wpO_cons (oskip fun w_ hJ hd => ?_) ?_
    · have e19 : vals 19 = _ := hd 19 (by decide)
      rw [e19]
      exact ⟨by kernel_rfl, rfl⟩
    refine wpO_cons (oval (.bool false) GN.refl fun w_ hJ hd => ?_) ?_
    · have e19 : vals 19 = _ := hd 19 (by decide)
      have e24 : vals 24 = _ := hd 24 (by decide)
      rw [e19, e24]
      exact ⟨by kernel_rfl, by kernel_rfl, rfl⟩
    refine wpO_cons (oval (.bool false) GN.refl fun w_ hJ hd => ?_) ?_
    · have e25 : vals 25 = _ := hd 25 (by decide)
      rw [e25]
      exact ⟨by kernel_rfl, by kernel_rfl, rfl⟩
    refine wpO_cons (oskip fun w_ hJ hd => ?_) ?_
    · have e26 : vals 26 = _ := hd 26 (by decide)
      rw [e26]
      exact ⟨by kernel_rfl, rfl⟩
    refine wpO_cons (oskip fun w_ hJ hd => ?_) ?_
    · have e26 : vals 26 = _ := hd 26 (by decide)
      rw [e26]
      exact ⟨by kernel_rfl, rfl⟩
    refine wpO_cons (oskip fun w_ hJ hd => ?_) ?_
    · have e26 : vals 26 = _ := hd 26 (by decide)
      rw [e26]
      exact ⟨by kernel_rfl, rfl⟩
    refine wpO_cons (oskip fun w_ hJ hd => ?_) ?_
    · have e26 : vals 26 = _ := hd 26 (by decide)
      rw [e26]
      exact ⟨by kernel_rfl, rfl⟩
    refine wpO_cons (oskip fun w_ hJ hd => ?_) ?_
    · have e26 : vals 26 = _ := hd 26 (by decide)
      rw [e26]
      exact ⟨by kernel_rfl, rfl⟩
    refine wpO_cons (oval (.bool false) GN.refl fun w_ hJ hd => ?_) ?_
    · have e26 : vals 26 = _ := hd 26 (by decide)
      have e31 : vals 31 = _ := hd 31 (by decide)
      rw [e26, e31]
      exact ⟨by kernel_rfl, by kernel_rfl, rfl⟩
    refine wpO_cons (oval (.bool false) GN.refl fun w_ hJ hd => ?_) ?_
    · have e32 : vals 32 = _ := hd 32 (by decide)
      rw [e32]
      exact ⟨by kernel_rfl, by kernel_rfl, rfl⟩
    refine wpO_cons (oskip fun w_ hJ hd => ?_) ?_
    · have e33 : vals 33 = _ := hd 33 (by decide)
      rw [e33]
      exact ⟨by kernel_rfl, rfl⟩
    refine wpO_cons (oskip fun w_ hJ hd => ?_) ?_
    · have e33 : vals 33 = _ := hd 33 (by decide)
      rw [e33]
      exact ⟨by kernel_rfl, rfl⟩
    refine wpO_cons (oskip fun w_ hJ hd => ?_) ?_
    · have e33 : vals 33 = _ := hd 33 (by decide)
      rw [e33]
      exact ⟨by kernel_rfl, rfl⟩
    refine wpO_cons (oskip fun w_ hJ hd => ?_) ?_
    · have e33 : vals 33 = _ := hd 33 (by decide)
      rw [e33]
      exact ⟨by kernel_rfl, rfl⟩
    refine wpO_cons (oskip fun w_ hJ hd => ?_) ?_
    · have e33 : vals 33 = _ := hd 33 (by decide)
      rw [e33]
      exact ⟨by kernel_rfl, rfl⟩
    refine wpO_cons (oval (.bool false) GN.refl fun w_ hJ hd => ?_) ?_
    · have e33 : vals 33 = _ := hd 33 (by decide)
      have e38 : vals 38 = _ := hd 38 (by decide)
      rw [e33, e38]
      exact ⟨by kernel_rfl, by kernel_rfl, rfl⟩
    refine wpO_cons (oval (.bool false) GN.refl fun w_ hJ hd => ?_) ?_
    · have e39 : vals 39 = _ := hd 39 (by decide)
      rw [e39]
      exact ⟨by kernel_rfl, by kernel_rfl, rfl⟩
    refine wpO_cons (oskip fun w_ hJ hd => ?_) ?_
    · have e40 : vals 40 = _ := hd 40 (by decide)
      rw [e40]
      exact ⟨by kernel_rfl, rfl⟩
    refine wpO_cons (oskip fun w_ hJ hd => ?_) ?_
    · have e40 : vals 40 = _ := hd 40 (by decide)
      rw [e40]
      exact ⟨by kernel_rfl, rfl⟩
    refine wpO_cons (oskip fun w_ hJ hd => ?_) ?_
    · have e40 : vals 40 = _ := hd 40 (by decide)
      rw [e40]
      exact ⟨by kernel_rfl, rfl⟩
    refine wpO_cons (oskip fun w_ hJ hd => ?_) ?_
    · have e40 : vals 40 = _ := hd 40 (by decide)
      rw [e40]
      exact ⟨by kernel_rfl, rfl⟩
    refine wpO_cons (oskip fun w_ hJ hd => ?_) ?_
    · have e40 : vals 40 = _ := hd 40 (by decide)
      rw [e40]
      exact ⟨by kernel_rfl, rfl⟩
    refine wpO_cons (oval (.bool false) GN.refl fun w_ hJ hd => ?_) ?_
    · have e40 : vals 40 = _ := hd 40 (by decide)
      have e45 : vals 45 = _ := hd 45 (by decide)
      rw [e40, e45]
      exact ⟨by kernel_rfl, by kernel_rfl, rfl⟩
    refine wpO_cons (oval (.bool false) GN.refl fun w_ hJ hd => ?_) ?_
    · have e46 : vals 46 = _ := hd 46 (by decide)
      rw [e46]
      exact ⟨by kernel_rfl, by kernel_rfl, rfl⟩
    refine wpO_cons (oskip fun w_ hJ hd => ?_) ?_
    · have e47 : vals 47 = _ := hd 47 (by decide)
      rw [e47]
      exact ⟨by kernel_rfl, rfl⟩
    refine wpO_cons (oskip fun w_ hJ hd => ?_) ?_
    · have e47 : vals 47 = _ := hd 47 (by decide)
      rw [e47]
      exact ⟨by kernel_rfl, rfl⟩
    refine wpO_cons (oskip fun w_ hJ hd => ?_) ?_
    · have e47 : vals 47 = _ := hd 47 (by decide)
      rw [e47]
      exact ⟨by kernel_rfl, rfl⟩
    refine wpO_cons (oskip fun w_ hJ hd => ?_) ?_
    · have e47 : vals 47 = _ := hd 47 (by decide)
      rw [e47]
      exact ⟨by kernel_rfl, rfl⟩
    refine wpO_cons (oskip fun w_ hJ hd => ?_) ?_
    · have e47 : vals 47 = _ := hd 47 (by decide)
      rw [e47]
      exact ⟨by kernel_rfl, rfl⟩
    refine wpO_cons (oskip fun w_ hJ hd => ?_) ?_
    · have e47 : vals 47 = _ := hd 47 (by decide)
      rw [e47]
      exact ⟨by kernel_rfl, rfl⟩
    refine wpO_cons (oskip fun w_ hJ hd => ?_) ?_
    · have e47 : vals 47 = _ := hd 47 (by decide)
      rw [e47]
      exact ⟨by kernel_rfl, rfl⟩
    refine wpO_cons (oskip fun w_ hJ hd => ?_) ?_
    · have e47 : vals 47 = _ := hd 47 (by decide)
      rw [e47]
      exact ⟨by kernel_rfl, rfl⟩
    refine wpO_cons (oskip fun w_ hJ hd => ?_) ?_
    · have e47 : vals 47 = _ := hd 47 (by decide)
      rw [e47]
      exact ⟨by kernel_rfl, rfl⟩
    refine wpO_cons (oskip fun w_ hJ hd => ?_) ?_
    · have e47 : vals 47 = _ := hd 47 (by decide)
      rw [e47]
      exact ⟨by kernel_rfl, rfl⟩
    refine wpO_cons (oval (.bool false) GN.refl fun w_ hJ hd => ?_) ?_
    · have e47 : vals 47 = _ := hd 47 (by decide)
      have e57 : vals 57 = _ := hd 57 (by decide)
      rw [e47, e57]
      exact ⟨by kernel_rfl, by kernel_rfl, rfl⟩
    refine wpO_cons (oval (.bool false) GN.refl fun w_ hJ hd => ?_) wpO_nil
    · have e58 : vals 58 = _ := hd 58 (by decide)
      rw [e58]
      exact ⟨by kernel_rfl, by kernel_rfl, rfl⟩
  · intro vals w_ hJ hf
    have e0 : vals 0 = _ := hf 0 (by decide)
    have e1 : vals 1 = _ := hf 1 (by decide)
    have e2 : vals 2 = _ := hf 2 (by decide)
    have e3 : vals 3 = _ := hf 3 (by decide)
    have e4 : vals 4 = _ := hf 4 (by decide)
    have e5 : vals 5 = _ := hf 5 (by decide)
    have e6 : vals 6 = _ := hf 6 (by decide)
    have e7 : vals 7 = _ := hf 7 (by decide)
    have e8 : vals 8 = _ := hf 8 (by decide)
    have e9 : vals 9 = _ := hf 9 (by decide)
    have e10 : vals 10 = _ := hf 10 (by decide)
    have e11 : vals 11 = _ := hf 11 (by decide)
    have e12 : vals 12 = _ := hf 12 (by decide)
    have e13 : vals 13 = _ := hf 13 (by decide)
    have e14 : vals 14 = _ := hf 14 (by decide)
    have e15 : vals 15 = _ := hf 15 (by decide)
    have e16 : vals 16 = _ := hf 16 (by decide)
    have e17 : vals 17 = _ := hf 17 (by decide)
    have e18 : vals 18 = _ := hf 18 (by decide)
    have e19 : vals 19 = _ := hf 19 (by decide)
    have e20 : vals 20 = _ := hf 20 (by decide)
    have e21 : vals 21 = _ := hf 21 (by decide)
    have e22 : vals 22 = _ := hf 22 (by decide)
    have e23 : vals 23 = _ := hf 23 (by decide)
    have e24 : vals 24 = _ := hf 24 (by decide)
    have e25 : vals 25 = _ := hf 25 (by decide)
    have e26 : vals 26 = _ := hf 26 (by decide)
    have e27 : vals 27 = _ := hf 27 (by decide)
    have e28 : vals 28 = _ := hf 28 (by decide)
    have e29 : vals 29 = _ := hf 29 (by decide)
    have e30 : vals 30 = _ := hf 30 (by decide)
    have e31 : vals 31 = _ := hf 31 (by decide)
    have e32 : vals 32 = _ := hf 32 (by decide)
    have e33 : vals 33 = _ := hf 33 (by decide)
    have e34 : vals 34 = _ := hf 34 (by decide)
    have e35 : vals 35 = _ := hf 35 (by decide)
    have e36 : vals 36 = _ := hf 36 (by decide)
    have e37 : vals 37 = _ := hf 37 (by decide)
    have e38 : vals 38 = _ := hf 38 (by decide)
    have e39 : vals 39 = _ := hf 39 (by decide)
    have e40 : vals 40 = _ := hf 40 (by decide)
    have e41 : vals 41 = _ := hf 41 (by decide)
    have e42 : vals 42 = _ := hf 42 (by decide)
    have e43 : vals 43 = _ := hf 43 (by decide)
    have e44 : vals 44 = _ := hf 44 (by decide)
    have e45 : vals 45 = _ := hf 45 (by decide)
    have e46 : vals 46 = _ := hf 46 (by decide)
    have e47 : vals 47 = _ := hf 47 (by decide)
    have e48 : vals 48 = _ := hf 48 (by decide)
    have e49 : vals 49 = _ := hf 49 (by decide)
    have e50 : vals 50 = _ := hf 50 (by decide)
    have e51 : vals 51 = _ := hf 51 (by decide)
    have e52 : vals 52 = _ := hf 52 (by decide)
    have e53 : vals 53 = _ := hf 53 (by decide)
    have e54 : vals 54 = _ := hf 54 (by decide)
    have e55 : vals 55 = _ := hf 55 (by decide)
    have e56 : vals 56 = _ := hf 56 (by decide)
    have e57 : vals 57 = _ := hf 57 (by decide)
    have e58 : vals 58 = _ := hf 58 (by decide)
    have e59 : vals 59 = _ := hf 59 (by decide)
    show Exit.then _ _ _ (fillG vals 0 (_ :: _ :: _ :: _ :: _ :: _ :: _ :: _ :: _ :: _ :: _ :: _ :: _ :: _ :: _ :: _ :: _ :: _ :: _ :: _ :: _ :: _ :: _ :: _ :: _ :: _ :: _ :: _ :: _ :: _ :: _ :: _ :: _ :: _ :: _ :: _ :: _ :: _ :: _ :: _ :: _ :: _ :: _ :: _ :: _ :: _ :: _ :: _ :: _ :: _ :: _ :: _ :: _ :: _ :: _ :: _ :: _ :: _ :: _ :: _ :: []) _) _
    simp only [fillG, Nat.zero_add, Nat.reduceAdd, e0, e1, e2, e3, e4, e5, e6, e7, e8, e9, e10, e11, e12, e13, e14, e15, e16, e17, e18, e19, e20, e21, e22, e23, e24, e25, e26, e27, e28, e29, e30, e31, e32, e33, e34, e35, e36, e37, e38, e39, e40, e41, e42, e43, e44, e45, e46, e47, e48, e49, e50, e51, e52, e53, e54, e55, e56, e57, e58, e59, Act.put, List.setIfInBounds_toArray, List.set_cons_succ, List.set_cons_zero]
    clear e0 e1 e2 e3 e4 e5 e6 e7 e8 e9 e10 e11 e12 e13 e14 e15 e16 e17 e18 e19 e20 e21 e22 e23 e24 e25 e26 e27 e28 e29 e30 e31 e32 e33 e34 e35 e36 e37 e38 e39 e40 e41 e42 e43 e44 e45 e46 e47 e48 e49 e50 e51 e52 e53 e54 e55 e56 e57 e58 e59 hf
    have hg := GN.trans (unhide HG) hJ
    clear hJ H1 H2 Hx Hy h0
    have Hg := hide hg
    clear hg
    go_wp2
    go_ret
    exact ⟨rfl, unhide Hg⟩
set_option maxRecDepth 100000 in
set_option maxHeartbeats 4000000 in
theorem same_d1 {x y : It} (hx : II x) (hy : II y) (h0 : Hid (x.pc = y.pc)) (h1 : Hid (x.bits ≠ y.bits)) (w : World) :
    Calls Tryd.prog 24 #[.agg (itl x).toArray, .agg (itl y).toArray] w fun r w' => r = .returned (.bool false) ∧ GN w w' := by
  have J := ((Heap.nil w).new (itl x).toArray 38).new (itl y).toArray 61
  obtain ⟨k1, hk1⟩ : ∃ k, w.heap.size = k := ⟨_, rfl⟩
  simp only [World.size_alloc, hk1] at J
  have H := hide J
  have Hx := hide hx
  have Hy := hide hy
  clear J hx hy
  go_enter Tryd.func24, Tryd.ntmps24
  go_upto_region 1 with fail
  have J := unhide H
  obtain ⟨k2, hk2⟩ : ∃ k, k1 + 1 = k := ⟨_, rfl⟩
  rw [hk2] at J ⊢
  generalize (w.alloc (.cells (itl x).toArray 38)).alloc (.cells (itl y).toArray 61) = w2 at J ⊢
  have H1 := hide (Heap.heap J.f2)
  have H2 := hide (Heap.heap J)
  have HG := hide (gn_of_below J.below)
  clear H J hk1 hk2
  refine wp_list_O (fun w_ => GN w2 w_) GN (fun k_ v_ w_ => match k_ with
      | 0 => v_ = .pointer (some ⟨k1, 0 + 0, none⟩)
      | 1 => v_ = .int .u64 x.pc
      | 2 => v_ = .pointer (some ⟨k2, 0 + 0, none⟩)
      | 3 => v_ = .int .u64 y.pc
      | 4 => v_ = .bool true
      | 5 => v_ = .bool true
      | 6 => v_ = .pointer (some ⟨k1, 0 + 1, none⟩)
      | 7 => v_ = .int .u32 x.bits
      | 8 => v_ = .pointer (some ⟨k2, 0 + 1, none⟩)
      | 9 => v_ = .int .u32 y.bits
      | 10 => v_ = .bool false
      | 11 => v_ = .bool false
      | 12 => v_ = .bool false
      | 13 => v_ = undef
      | 14 => v_ = undef
      | 15 => v_ = undef
      | 16 => v_ = undef
      | 17 => v_ = undef
      | 18 => v_ = .bool false
      | 19 => v_ = .bool false
      | 20 => v_ = undef
      | 21 => v_ = undef
      | 22 => v_ = undef
      | 23 => v_ = undef
      | 24 => v_ = undef
      | 25 => v_ = .bool false
      | 26 => v_ = .bool false
      | 27 => v_ = undef
      | 28 => v_ = undef
      | 29 => v_ = undef
      | 30 => v_ = undef
      | 31 => v_ = undef
      | 32 => v_ = .bool false
      | 33 => v_ = .bool false
      | 34 => v_ = undef
      | 35 => v_ = undef
      | 36 => v_ = undef
      | 37 => v_ = undef
      | 38 => v_ = undef
      | 39 => v_ = .bool false
      | 40 => v_ = .bool false
      | 41 => v_ = undef
      | 42 => v_ = undef
      | 43 => v_ = undef
      | 44 => v_ = undef
      | 45 => v_ = undef
      | 46 => v_ = .bool false
      | 47 => v_ = .bool false
      | 48 => v_ = undef
      | 49 => v_ = undef
      | 50 => v_ = undef
      | 51 => v_ = undef
      | 52 => v_ = undef
      | 53 => v_ = undef
      | 54 => v_ = undef
      | 55 => v_ = undef
      | 56 => v_ = undef
      | 57 => v_ = undef
      | 58 => v_ = .bool false
      | _ => v_ = .bool false) ?_ ?_ GN.refl ?_ ?_
  · exact GN.refl w2
  · intro k_ v_ w_ w2_ h1 hg
    split at h1 <;> exact h1
  · intro vals
    show wpO _ _ _ _ _ _ 0 (_ :: _) _
    refine wpO_cons (oval (.pointer (some ⟨k1, 0 + 0, none⟩)) GN.refl fun w_ hJ hd => ?_) ?_
    · exact ⟨by kernel_rfl, by kernel_rfl, rfl⟩
    refine wpO_cons (oop (Instr.loadAt 22 (.pointer (some ⟨k1, 0 + 0, none⟩))) (.int .u64 x.pc) GN.refl fun w_ hJ hd => ?_) ?_
    · have e0 : vals 0 = _ := hd 0 (by decide)
      rw [e0]
      exact ⟨by kernel_rfl, by kernel_rfl, run_load1 (by kernel_rfl) (cell_blk (hJ.heap (unhide H1)) 0).1, rfl⟩
    refine wpO_cons (oval (.pointer (some ⟨k2, 0 + 0, none⟩)) GN.refl fun w_ hJ hd => ?_) ?_
    · exact ⟨by kernel_rfl, by kernel_rfl, rfl⟩
    refine wpO_cons (oop (Instr.loadAt 22 (.pointer (some ⟨k2, 0 + 0, none⟩))) (.int .u64 y.pc) GN.refl fun w_ hJ hd => ?_) ?_
    · have e2 : vals 2 = _ := hd 2 (by decide)
      rw [e2]
      exact ⟨by kernel_rfl, by kernel_rfl, run_load1 (by kernel_rfl) (cell_blk (hJ.heap (unhide H2)) 0).1, rfl⟩
    refine wpO_cons (oop (binOp .eql 22 (.int .u64 x.pc) (.int .u64 y.pc)) (.bool true) GN.refl fun w_ hJ hd => ?_) ?_
    · have e1 : vals 1 = _ := hd 1 (by decide)
      have e3 : vals 3 = _ := hd 3 (by decide)
      rw [e1, e3]
      exact ⟨by kernel_rfl, by kernel_rfl, run_eq22t (unhide h0) w_, rfl⟩
    refine wpO_cons (oval (.bool true) GN.refl fun w_ hJ hd => ?_) ?_
    · have e4 : vals 4 = _ := hd 4 (by decide)
      rw [e4]
      exact ⟨by kernel_rfl, by kernel_rfl, rfl⟩
    refine wpO_cons (oval (.pointer (some ⟨k1, 0 + 1, none⟩)) GN.refl fun w_ hJ hd => ?_) ?_
    · have e5 : vals 5 = _ := hd 5 (by decide)
      rw [e5]
      exact ⟨by kernel_rfl, by kernel_rfl, rfl⟩
    refine wpO_cons (oop (Instr.loadAt 33 (.pointer (some ⟨k1, 0 + 1, none⟩))) (.int .u32 x.bits) GN.refl fun w_ hJ hd => ?_) ?_
    · have e6 : vals 6 = _ := hd 6 (by decide)
      have e5 : vals 5 = _ := hd 5 (by decide)
      rw [e6, e5]
      exact ⟨by kernel_rfl, by kernel_rfl, run_load1 (by kernel_rfl) (cell_blk (hJ.heap (unhide H1)) 1).1, rfl⟩
    refine wpO_cons (oval (.pointer (some ⟨k2, 0 + 1, none⟩)) GN.refl fun w_ hJ hd => ?_) ?_
    · have e5 : vals 5 = _ := hd 5 (by decide)
      rw [e5]
      exact ⟨by kernel_rfl, by kernel_rfl, rfl⟩
    refine wpO_cons (oop (Instr.loadAt 33 (.pointer (some ⟨k2, 0 + 1, none⟩))) (.int .u32 y.bits) GN.refl fun w_ hJ hd => ?_) ?_
    · have e8 : vals 8 = _ := hd 8 (by decide)
      have e5 : vals 5 = _ := hd 5 (by decide)
      rw [e8, e5]
      exact ⟨by kernel_rfl, by kernel_rfl, run_load1 (by kernel_rfl) (cell_blk (hJ.heap (unhide H2)) 1).1, rfl⟩
    refine wpO_cons (oop (binOp .eql 33 (.int .u32 x.bits) (.int .u32 y.bits)) (.bool false) GN.refl fun w_ hJ hd => ?_) ?_
    · have e7 : vals 7 = _ := hd 7 (by decide)
      have e9 : vals 9 = _ := hd 9 (by decide)
      have e5 : vals 5 = _ := hd 5 (by decide)
      rw [e7, e9, e5]
      exact ⟨by kernel_rfl, by kernel_rfl, run_eq33f (unhide h1) w_, rfl⟩
    refine wpO_cons (oval (.bool false) GN.refl fun w_ hJ hd => ?_) ?_
    · have e5 : vals 5 = _ := hd 5 (by decide)
      have e10 : vals 10 = _ := hd 10 (by decide)
      rw [e5, e10]
      exact ⟨by kernel_rfl, by kernel_rfl, rfl⟩
    refine wpO_cons (oval (.bool false) GN.refl fun w_ hJ hd => ?_) ?_
    · have e11 : vals 11 = _ := hd 11 (by decide)
      rw [e11]
      exact ⟨by kernel_rfl, by kernel_rfl, rfl⟩
    refine wpO_cons (oskip fun w_ hJ hd => ?_) ?_
    · have e12 : vals 12 = _ := hd 12 (by decide)
      rw [e12]
      exact ⟨by kernel_rfl, rfl⟩
    refine wpO_cons (oskip fun w_ hJ hd => ?_) ?_
    · have e12 : vals 12 = _ := hd 12 (by decide)
      rw [e12]
      exact ⟨by kernel_rfl, rfl⟩
    refine wpO_cons (oskip fun w_ hJ hd => ?_) ?_
    · have e12 : vals 12 = _ := hd 12 (by decide)
      rw [e12]
      exact ⟨by kernel_rfl, rfl⟩
    refine wpO_cons (oskip fun w_ hJ hd => ?_) ?_
    · have e12 : vals 12 = _ := hd 12 (by decide)
      rw [e12]
      exact ⟨by kernel_rfl, rfl⟩
    refine wpO_cons (oskip fun w_ hJ hd => ?_) ?_
    · have e12 : vals 12 = _ := hd 12 (by decide)
      rw [e12]
      exact ⟨by kernel_rfl, rfl⟩
    refine wpO_cons (oval (.bool false) GN.refl fun w_ hJ hd => ?_) ?_
    · have e12 : vals 12 = _ := hd 12 (by decide)
      have e17 : vals 17 = _ := hd 17 (by decide)
      rw [e12, e17]
      exact ⟨by kernel_rfl, by kernel_rfl, rfl⟩
    refine wpO_cons (oval (.bool false) GN.refl fun w_ hJ hd => ?_) ?_
    · have e18 : vals 18 = _ := hd 18 (by decide)
      rw [e18]
      exact ⟨by kernel_rfl, by kernel_rfl, rfl⟩
    refine wpO_cons (oskip fun w_ hJ hd => ?_) ?_
    · have e19 : vals 19 = _ := hd 19 (by decide)
      rw [e19]
      exact ⟨by kernel_rfl, rfl⟩
    refine wpO_cons (oskip fun w_ hJ hd => ?_) ?_
    · have e19 : vals 19 = _ := hd 19 (by decide)
      rw [e19]
      exact ⟨by kernel_rfl, rfl⟩
    refine wpO_cons (oskip fun w_ hJ hd => ?_) ?_
    · have e19 : vals 19 = _ := hd 19 (by decide)
      rw [e19]
      exact ⟨by kernel_rfl, rfl⟩
    refine wpO_cons (oskip fun w_ hJ hd => ?_) ?_
    · have e19 : vals 19 = _ := hd 19 (by decide)
      rw [e19]
      exact ⟨by kernel_rfl, rfl⟩
    refine wpO_cons (oskip fun w_ hJ hd => ?_) ?_
    · have e19 : vals 19 = _ := hd 19 (by decide)
      rw [e19]
      exact ⟨by kernel_rfl, rfl⟩
    refine wpO_cons (oval (.bool false) GN.refl fun w_ hJ hd => ?_) ?_
    · have e19 : vals 19 = _ := hd 19 (by decide)
      have e24 : vals 24 = _ := hd 24 (by decide)
      rw [e19, e24]
      exact ⟨by kernel_rfl, by kernel_rfl, rfl⟩
    refine wpO_cons (oval (.bool false) GN.refl fun w_ hJ hd => ?_) ?_
    · have e25 : vals 25 = _ := hd 25 (by decide)
      rw [e25]
      exact ⟨by kernel_rfl, by kernel_rfl, rfl⟩
    refine wpO_cons (oskip fun w_ hJ hd => ?_) ?_
    · have e26 : vals 26 = _ := hd 26 (by decide)
      rw [e26]
      exact ⟨by kernel_rfl, rfl⟩
    refine wpO_cons (oskip fun w_ hJ hd => ?_) ?_
    · have e26 : vals 26 = _ := hd 26 (by decide)
      rw [e26]
      exact ⟨by kernel_rfl, rfl⟩
    refine wpO_cons (oskip fun w_ hJ hd => ?_) ?_
    · have e26 : vals 26 = _ := hd 26 (by decide)
      rw [e26]
      exact ⟨by kernel_rfl, rfl⟩
    refine wpO_cons (oskip fun w_ hJ hd => ?_) ?_
    · have e26 : vals 26 = _ := hd 26 (by decide)
      rw [e26]
      exact ⟨by kernel_rfl, rfl⟩
    refine wpO_cons (oskip fun w_ hJ hd => ?_) ?_
    · have e26 : vals 26 = _ := hd 26 (by decide)
      rw [e26]
      exact ⟨by kernel_rfl, rfl⟩
    refine wpO_cons (oval (.bool false) GN.refl fun w_ hJ hd => ?_) ?_
    · have e26 : vals 26 = _ := hd 26 (by decide)
      have e31 : vals 31 = _ := hd 31 (by decide)
      rw [e26, e31]
      exact ⟨by kernel_rfl, by kernel_rfl, rfl⟩
    refine wpO_cons (oval (.bool false) GN.refl fun w_ hJ hd => ?_) ?_
    · have e32 : vals 32 = _ := hd 32 (by decide)
      rw [e32]
      exact ⟨by kernel_rfl, by kernel_rfl, rfl⟩
    refine wpO_cons (oskip fun w_ hJ hd => ?_) ?_
    · have e33 : vals 33 = _ := hd 33 (by decide)
      rw [e33]
      exact ⟨by kernel_rfl, rfl⟩
    refine wpO_cons (oskip fun w_ hJ hd => ?_) ?_
    · have e33 : vals 33 = _ := hd 33 (by decide)
      rw [e33]
      exact ⟨by kernel_rfl, rfl⟩
    refine wpO_cons (oskip fun w_ hJ hd => ?_) ?_
    · have e33 : vals 33 = _ := hd 33 (by decide)
      rw [e33]
      exact ⟨by kernel_rfl, rfl⟩
    refine wpO_cons (oskip fun w_ hJ hd => ?_) ?_
    · have e33 : vals 33 = _ := hd 33 (by decide)
      rw [e33]
      exact ⟨by kernel_rfl, rfl⟩
    refine wpO_cons (oskip fun w_ hJ hd => ?_) ?_
    · have e33 : vals 33 = _ := hd 33 (by decide)
      rw [e33]
      exact ⟨by kernel_rfl, rfl⟩
    refine wpO_cons (oval (.bool false) GN.refl fun w_ hJ hd => ?_) ?_
    · have e33 : vals 33 = _ := hd 33 (by decide)
      have e38 : vals 38 = _ := hd 38 (by decide)
      rw [e33, e38]
      exact ⟨by kernel_rfl, by kernel_rfl, rfl⟩
    refine wpO_cons (oval (.bool false) GN.refl fun w_ hJ hd => ?_) ?_
    · have e39 : vals 39 = _ := hd 39 (by decide)
      rw [e39]
      exact ⟨by kernel_rfl, by kernel_rfl, rfl⟩
    refine wpO_cons (oskip fun w_ hJ hd => ?_) ?_
    · have e40 : vals 40 = _ := hd 40 (by decide)
      rw [e40]
      exact ⟨by kernel_rfl, rfl⟩
    refine wpO_cons (oskip fun w_ hJ hd => ?_) ?_
    · have e40 : vals 40 = _ := hd 40 (by decide)
      rw [e40]
      exact ⟨by kernel_rfl, rfl⟩
    refine wpO_cons (oskip fun w_ hJ hd => ?_) ?_
    · have e40 : vals 40 = _ := hd 40 (by decide)
      rw [e40]
      exact ⟨by kernel_rfl, rfl⟩
    refine wpO_cons (oskip fun w_ hJ hd => ?_) ?_
    · have e40 : vals 40 = _ := hd 40 (by decide)
      rw [e40]
      exact ⟨by kernel_rfl, rfl⟩
    refine wpO_cons (oskip fun w_ hJ hd => ?_) ?_
    · have e40 : vals 40 = _ := hd 40 (by decide)
      rw [e40]
      exact ⟨by kernel_rfl, rfl⟩
    refine wpO_cons (oval (.bool false) GN.refl fun w_ hJ hd => ?_) ?_
    · have e40 : vals 40 = _ := hd 40 (by decide)
      have e45 : vals 45 = _ := hd 45 (by decide)
      rw [e40, e45]
      exact ⟨by kernel_rfl, by kernel_rfl, rfl⟩
    refine wpO_cons (oval (.bool false) GN.refl fun w_ hJ hd => ?_) ?_
    · have e46 : vals 46 = _ := hd 46 (by decide)
      rw [e46]
      exact ⟨by kernel_rfl, by kernel_rfl, rfl⟩
    refine wpO_cons (oskip fun w_ hJ hd => ?_) ?_
    · have e47 : vals 47 = _ := hd 47 (by decide)
      rw [e47]
      exact ⟨by kernel_rfl, rfl⟩
    refine wpO_cons (oskip fun w_ hJ hd => ?_) ?_
    · have e47 : vals 47 = _ := hd 47 (by decide)
      rw [e47]
      exact ⟨by kernel_rfl, rfl⟩
    refine wpO_cons (oskip fun w_ hJ hd => ?_) ?_
    · have e47 : vals 47 = _ := hd 47 (by decide)
      rw [e47]
      exact ⟨by kernel_rfl, rfl⟩
    refine wpO_cons (oskip fun w_ hJ hd => ?_) ?_
    · have e47 : vals 47 = _ := hd 47 (by decide)
      rw [e47]
      exact ⟨by kernel_rfl, rfl⟩
    refine wpO_cons (oskip fun w_ hJ hd => ?_) ?_
    · have e47 : vals 47 = _ := hd 47 (by decide)
      rw [e47]
      exact ⟨by kernel_rfl, rfl⟩
    refine wpO_cons (oskip fun w_ hJ hd => ?_) ?_
    · have e47 : vals 47 = _ := hd 47 (by decide)
      rw [e47]
      exact ⟨by kernel_rfl, rfl⟩
    refine wpO_cons (oskip fun w_ hJ hd => ?_) ?_
    · have e47 : vals 47 = _ := hd 47 (by decide)
      rw [e47]
      exact ⟨by kernel_rfl, rfl⟩
    refine wpO_cons (oskip fun w_ hJ hd => ?_) ?_
    · have e47 : vals 47 = _ := hd 47 (by decide)
      rw [e47]
      exact ⟨by kernel_rfl, rfl⟩
    refine wpO_cons (oskip fun w_ hJ hd => ?_) ?_
    · have e47 : vals 47 = _ := hd 47 (by decide)
      rw [e47]
      exact ⟨by kernel_rfl, rfl⟩
    refine wpO_cons (oskip fun w_ hJ hd => ?_) ?_
    · have e47 : vals 47 = _ := hd 47 (by decide)
      rw [e47]
      exact ⟨by kernel_rfl, rfl⟩
    refine wpO_cons (oval (.bool false) GN.refl fun w_ hJ hd => ?_) ?_
    · have e47 : vals 47 = _ := hd 47 (by decide)
      have e57 : vals 57 = _ := hd 57 (by decide)
      rw [e47, e57]
      exact ⟨by kernel_rfl, by kernel_rfl, rfl⟩
    refine wpO_cons (oval (.bool false) GN.refl fun w_ hJ hd => ?_) wpO_nil
    · have e58 : vals 58 = _ := hd 58 (by decide)
      rw [e58]
      exact ⟨by kernel_rfl, by kernel_rfl, rfl⟩
  · intro vals w_ hJ hf
    have e0 : vals 0 = _ := hf 0 (by decide)
    have e1 : vals 1 = _ := hf 1 (by decide)
    have e2 : vals 2 = _ := hf 2 (by decide)
    have e3 : vals 3 = _ := hf 3 (by decide)
    have e4 : vals 4 = _ := hf 4 (by decide)
    have e5 : vals 5 = _ := hf 5 (by decide)
    have e6 : vals 6 = _ := hf 6 (by decide)
    have e7 : vals 7 = _ := hf 7 (by decide)
    have e8 : vals 8 = _ := hf 8 (by decide)
    have e9 : vals 9 = _ := hf 9 (by decide)
    have e10 : vals 10 = _ := hf 10 (by decide)
    have e11 : vals 11 = _ := hf 11 (by decide)
    have e12 : vals 12 = _ := hf 12 (by decide)
    have e13 : vals 13 = _ := hf 13 (by decide)
    have e14 : vals 14 = _ := hf 14 (by decide)
    have e15 : vals 15 = _ := hf 15 (by decide)
    have e16 : vals 16 = _ := hf 16 (by decide)
    have e17 : vals 17 = _ := hf 17 (by decide)
    have e18 : vals 18 = _ := hf 18 (by decide)
    have e19 : vals 19 = _ := hf 19 (by decide)
    have e20 : vals 20 = _ := hf 20 (by decide)
    have e21 : vals 21 = _ := hf 21 (by decide)
    have e22 : vals 22 = _ := hf 22 (by decide)
    have e23 : vals 23 = _ := hf 23 (by decide)
    have e24 : vals 24 = _ := hf 24 (by decide)
    have e25 : vals 25 = _ := hf 25 (by decide)
    have e26 : vals 26 = _ := hf 26 (by decide)
    have e27 : vals 27 = _ := hf 27 (by decide)
    have e28 : vals 28 = _ := hf 28 (by decide)
    have e29 : vals 29 = _ := hf 29 (by decide)
    have e30 : vals 30 = _ := hf 30 (by decide)
    have e31 : vals 31 = _ := hf 31 (by decide)
    have e32 : vals 32 = _ := hf 32 (by decide)
    have e33 : vals 33 = _ := hf 33 (by decide)
    have e34 : vals 34 = _ := hf 34 (by decide)
    have e35 : vals 35 = _ := hf 35 (by decide)
    have e36 : vals 36 = _ := hf 36 (by decide)
    have e37 : vals 37 = _ := hf 37 (by decide)
    have e38 : vals 38 = _ := hf 38 (by decide)
    have e39 : vals 39 = _ := hf 39 (by decide)
    have e40 : vals 40 = _ := hf 40 (by decide)
    have e41 : vals 41 = _ := hf 41 (by decide)
    have e42 : vals 42 = _ := hf 42 (by decide)
    have e43 : vals 43 = _ := hf 43 (by decide)
    have e44 : vals 44 = _ := hf 44 (by decide)
    have e45 : vals 45 = _ := hf 45 (by decide)
    have e46 : vals 46 = _ := hf 46 (by decide)
    have e47 : vals 47 = _ := hf 47 (by decide)
    have e48 : vals 48 = _ := hf 48 (by decide)
    have e49 : vals 49 = _ := hf 49 (by decide)
    have e50 : vals 50 = _ := hf 50 (by decide)
    have e51 : vals 51 = _ := hf 51 (by decide)
    have e52 : vals 52 = _ := hf 52 (by decide)
    have e53 : vals 53 = _ := hf 53 (by decide)
    have e54 : vals 54 = _ := hf 54 (by decide)
    have e55 : vals 55 = _ := hf 55 (by decide)
    have e56 : vals 56 = _ := hf 56 (by decide)
    have e57 : vals 57 = _ := hf 57 (by decide)
    have e58 : vals 58 = _ := hf 58 (by decide)
    have e59 : vals 59 = _ := hf 59 (by decide)
    show Exit.then _ _ _ (fillG vals 0 (_ :: _ :: _ :: _ :: _ :: _ :: _ :: _ :: _ :: _ :: _ :: _ :: _ :: _ :: _ :: _ :: _ :: _ :: _ :: _ :: _ :: _ :: _ :: _ :: _ :: _ :: _ :: _ :: _ :: _ :: _ :: _ :: _ :: _ :: _ :: _ :: _ :: _ :: _ :: _ :: _ :: _ :: _ :: _ :: _ :: _ :: _ :: _ :: _ :: _ :: _ :: _ :: _ :: _ :: _ :: _ :: _ :: _ :: _ :: _ :: []) _) _
    simp only [fillG, Nat.zero_add, Nat.reduceAdd, e0, e1, e2, e3, e4, e5, e6, e7, e8, e9, e10, e11, e12, e13, e14, e15, e16, e17, e18, e19, e20, e21, e22, e23, e24, e25, e26, e27, e28, e29, e30, e31, e32, e33, e34, e35, e36, e37, e38, e39, e40, e41, e42, e43, e44, e45, e46, e47, e48, e49, e50, e51, e52, e53, e54, e55, e56, e57, e58, e59, Act.put, List.setIfInBounds_toArray, List.set_cons_succ, List.set_cons_zero]
    clear e0 e1 e2 e3 e4 e5 e6 e7 e8 e9 e10 e11 e12 e13 e14 e15 e16 e17 e18 e19 e20 e21 e22 e23 e24 e25 e26 e27 e28 e29 e30 e31 e32 e33 e34 e35 e36 e37 e38 e39 e40 e41 e42 e43 e44 e45 e46 e47 e48 e49 e50 e51 e52 e53 e54 e55 e56 e57 e58 e59 hf
    have hg := GN.trans (unhide HG) hJ
    clear hJ H1 H2 Hx Hy h0 h1
    have Hg := hide hg
    clear hg
    go_wp2
    go_ret
    exact ⟨rfl, unhide Hg⟩
set_option maxRecDepth 100000 in
set_option maxHeartbeats 4000000 in
theorem same_d2 {x y : It} (hx : II x) (hy : II y) (h0 : Hid (x.pc = y.pc)) (h1 : Hid (x.bits = y.bits)) (h2 : Hid (x.inst ≠ y.inst)) (w : World) :
    Calls Tryd.prog 24 #[.agg (itl x).toArray, .agg (itl y).toArray] w fun r w' => r = .returned (.bool false) ∧ GN w w' := by
  have J := ((Heap.nil w).new (itl x).toArray 38).new (itl y).toArray 61
  obtain ⟨k1, hk1⟩ : ∃ k, w.heap.size = k := ⟨_, rfl⟩
  simp only [World.size_alloc, hk1] at J
  have H := hide J
  have Hx := hide hx
  have Hy := hide hy
  clear J hx hy
  go_enter Tryd.func24, Tryd.ntmps24
  go_upto_region 1 with fail
  have J := unhide H
  obtain ⟨k2, hk2⟩ : ∃ k, k1 + 1 = k := ⟨_, rfl⟩
  rw [hk2] at J ⊢
  generalize (w.alloc (.cells (itl x).toArray 38)).alloc (.cells (itl y).toArray 61) = w2 at J ⊢
  have H1 := hide (Heap.heap J.f2)
  have H2 := hide (Heap.heap J)
  have HG := hide (gn_of_below J.below)
  clear H J hk1 hk2
  refine wp_list_O (fun w_ => GN w2 w_) GN (fun k_ v_ w_ => match k_ with
      | 0 => v_ = .pointer (some ⟨k1, 0 + 0, none⟩)
      | 1 => v_ = .int .u64 x.pc
      | 2 => v_ = .pointer (some ⟨k2, 0 + 0, none⟩)
      | 3 => v_ = .int .u64 y.pc
      | 4 => v_ = .bool true
      | 5 => v_ = .bool true
      | 6 => v_ = .pointer (some ⟨k1, 0 + 1, none⟩)
      | 7 => v_ = .int .u32 x.bits
      | 8 => v_ = .pointer (some ⟨k2, 0 + 1, none⟩)
      | 9 => v_ = .int .u32 y.bits
      | 10 => v_ = .bool true
      | 11 => v_ = .bool true
      | 12 => v_ = .bool true
      | 13 => v_ = .pointer (some ⟨k1, 0 + 2, none⟩)
      | 14 => v_ = .int .u32 x.inst
      | 15 => v_ = .pointer (some ⟨k2, 0 + 2, none⟩)
      | 16 => v_ = .int .u32 y.inst
      | 17 => v_ = .bool false
      | 18 => v_ = .bool false
      | 19 => v_ = .bool false
      | 20 => v_ = undef
      | 21 => v_ = undef
      | 22 => v_ = undef
      | 23 => v_ = undef
      | 24 => v_ = undef
      | 25 => v_ = .bool false
      | 26 => v_ = .bool false
      | 27 => v_ = undef
      | 28 => v_ = undef
      | 29 => v_ = undef
      | 30 => v_ = undef
      | 31 => v_ = undef
      | 32 => v_ = .bool false
      | 33 => v_ = .bool false
      | 34 => v_ = undef
      | 35 => v_ = undef
      | 36 => v_ = undef
      | 37 => v_ = undef
      | 38 => v_ = undef
      | 39 => v_ = .bool false
      | 40 => v_ = .bool false
      | 41 => v_ = undef
      | 42 => v_ = undef
      | 43 => v_ = undef
      | 44 => v_ = undef
      | 45 => v_ = undef
      | 46 => v_ = .bool false
      | 47 => v_ = .bool false
      | 48 => v_ = undef
      | 49 => v_ = undef
      | 50 => v_ = undef
      | 51 => v_ = undef
      | 52 => v_ = undef
      | 53 => v_ = undef
      | 54 => v_ = undef
      | 55 => v_ = undef
      | 56 => v_ = undef
      | 57 => v_ = undef
      | 58 => v_ = .bool false
      | _ => v_ = .bool false) ?_ ?_ GN.refl ?_ ?_
  · exact GN.refl w2
  · intro k_ v_ w_ w2_ h1 hg
    split at h1 <;> exact h1
  · intro vals
    show wpO _ _ _ _ _ _ 0 (_ :: _) _
    refine wpO_cons (oval (.pointer (some ⟨k1, 0 + 0, none⟩)) GN.refl fun w_ hJ hd => ?_) ?_
    · exact ⟨by kernel_rfl, by kernel_rfl, rfl⟩
    refine wpO_cons (oop (Instr.loadAt 22 (.pointer (some ⟨k1, 0 + 0, none⟩))) (.int .u64 x.pc) GN.refl fun w_ hJ hd => ?_) ?_
    · have e0 : vals 0 = _ := hd 0 (by decide)
      rw [e0]
      exact ⟨by kernel_rfl, by kernel_rfl, run_load1 (by kernel_rfl) (cell_blk (hJ.heap (unhide H1)) 0).1, rfl⟩
    refine wpO_cons (oval (.pointer (some ⟨k2, 0 + 0, none⟩)) GN.refl fun w_ hJ hd => ?_) ?_
    · exact ⟨by kernel_rfl, by kernel_rfl, rfl⟩
    refine wpO_cons (oop (Instr.loadAt 22 (.pointer (some ⟨k2, 0 + 0, none⟩))) (.int .u64 y.pc) GN.refl fun w_ hJ hd => ?_) ?_
    · have e2 : vals 2 = _ := hd 2 (by decide)
      rw [e2]
      exact ⟨by kernel_rfl, by kernel_rfl, run_load1 (by kernel_rfl) (cell_blk (hJ.heap (unhide H2)) 0).1, rfl⟩
    refine wpO_cons (oop (binOp .eql 22 (.int .u64 x.pc) (.int .u64 y.pc)) (.bool true) GN.refl fun w_ hJ hd => ?_) ?_
    · have e1 : vals 1 = _ := hd 1 (by decide)
      have e3 : vals 3 = _ := hd 3 (by decide)
      rw [e1, e3]
      exact ⟨by kernel_rfl, by kernel_rfl, run_eq22t (unhide h0) w_, rfl⟩
    refine wpO_cons (oval (.bool true) GN.refl fun w_ hJ hd => ?_) ?_
    · have e4 : vals 4 = _ := hd 4 (by decide)
      rw [e4]
      exact ⟨by kernel_rfl, by kernel_rfl, rfl⟩
    refine wpO_cons (oval (.pointer (some ⟨k1, 0 + 1, none⟩)) GN.refl fun w_ hJ hd => ?_) ?_
    · have e5 : vals 5 = _ := hd 5 (by decide)
      rw [e5]
      exact ⟨by kernel_rfl, by kernel_rfl, rfl⟩
    refine wpO_cons (oop (Instr.loadAt 33 (.pointer (some ⟨k1, 0 + 1, none⟩))) (.int .u32 x.bits) GN.refl fun w_ hJ hd => ?_) ?_
    · have e6 : vals 6 = _ := hd 6 (by decide)
      have e5 : vals 5 = _ := hd 5 (by decide)
      rw [e6, e5]
      exact ⟨by kernel_rfl, by kernel_rfl, run_load1 (by kernel_rfl) (cell_blk (hJ.heap (unhide H1)) 1).1, rfl⟩
    refine wpO_cons (oval (.pointer (some ⟨k2, 0 + 1, none⟩)) GN.refl fun w_ hJ hd => ?_) ?_
    · have e5 : vals 5 = _ := hd 5 (by decide)
      rw [e5]
      exact ⟨by kernel_rfl, by kernel_rfl, rfl⟩
    refine wpO_cons (oop (Instr.loadAt 33 (.pointer (some ⟨k2, 0 + 1, none⟩))) (.int .u32 y.bits) GN.refl fun w_ hJ hd => ?_) ?_
    · have e8 : vals 8 = _ := hd 8 (by decide)
      have e5 : vals 5 = _ := hd 5 (by decide)
      rw [e8, e5]
      exact ⟨by kernel_rfl, by kernel_rfl, run_load1 (by kernel_rfl) (cell_blk (hJ.heap (unhide H2)) 1).1, rfl⟩
    refine wpO_cons (oop (binOp .eql 33 (.int .u32 x.bits) (.int .u32 y.bits)) (.bool true) GN.refl fun w_ hJ hd => ?_) ?_
    · have e7 : vals 7 = _ := hd 7 (by decide)
      have e9 : vals 9 = _ := hd 9 (by decide)
      have e5 : vals 5 = _ := hd 5 (by decide)
      rw [e7, e9, e5]
      exact ⟨by kernel_rfl, by kernel_rfl, run_eq33t (unhide h1) w_, rfl⟩
    refine wpO_cons (oval (.bool true) GN.refl fun w_ hJ hd => ?_) ?_
    · have e5 : vals 5 = _ := hd 5 (by decide)
      have e10 : vals 10 = _ := hd 10 (by decide)
      rw [e5, e10]
      exact ⟨by kernel_rfl, by kernel_rfl, rfl⟩
    refine wpO_cons (oval (.bool true) GN.refl fun w_ hJ hd => ?_) ?_
    · have e11 : vals 11 = _ := hd 11 (by decide)
      rw [e11]
      exact ⟨by kernel_rfl, by kernel_rfl, rfl⟩
    refine wpO_cons (oval (.pointer (some ⟨k1, 0 + 2, none⟩)) GN.refl fun w_ hJ hd => ?_) ?_
    · have e12 : vals 12 = _ := hd 12 (by decide)
      rw [e12]
      exact ⟨by kernel_rfl, by kernel_rfl, rfl⟩
    refine wpO_cons (oop (Instr.loadAt 33 (.pointer (some ⟨k1, 0 + 2, none⟩))) (.int .u32 x.inst) GN.refl fun w_ hJ hd => ?_) ?_
    · have e13 : vals 13 = _ := hd 13 (by decide)
      have e12 : vals 12 = _ := hd 12 (by decide)
      rw [e13, e12]
      exact ⟨by kernel_rfl, by kernel_rfl, run_load1 (by kernel_rfl) (cell_blk (hJ.heap (unhide H1)) 2).1, rfl⟩
    refine wpO_cons (oval (.pointer (some ⟨k2, 0 + 2, none⟩)) GN.refl fun w_ hJ hd => ?_) ?_
    · have e12 : vals 12 = _ := hd 12 (by decide)
      rw [e12]
      exact ⟨by kernel_rfl, by kernel_rfl, rfl⟩
    refine wpO_cons (oop (Instr.loadAt 33 (.pointer (some ⟨k2, 0 + 2, none⟩))) (.int .u32 y.inst) GN.refl fun w_ hJ hd => ?_) ?_
    · have e15 : vals 15 = _ := hd 15 (by decide)
      have e12 : vals 12 = _ := hd 12 (by decide)
      rw [e15, e12]
      exact ⟨by kernel_rfl, by kernel_rfl, run_load1 (by kernel_rfl) (cell_blk (hJ.heap (unhide H2)) 2).1, rfl⟩
    refine wpO_cons (oop (binOp .eql 33 (.int .u32 x.inst) (.int .u32 y.inst)) (.bool false) GN.refl fun w_ hJ hd => ?_) ?_
    · have e14 : vals 14 = _ := hd 14 (by decide)
      have e16 : vals 16 = _ := hd 16 (by decide)
      have e12 : vals 12 = _ := hd 12 (by decide)
      rw [e14, e16, e12]
      exact ⟨by kernel_rfl, by kernel_rfl, run_eq33f (unhide h2) w_, rfl⟩
    refine wpO_cons (oval (.bool false) GN.refl fun w_ hJ hd => ?_) ?_
    · have e12 : vals 12 = _ := hd 12 (by decide)
      have e17 : vals 17 = _ := hd 17 (by decide)
      rw [e12, e17]
      exact ⟨by kernel_rfl, by kernel_rfl, rfl⟩
    refine wpO_cons (oval (.bool false) GN.refl fun w_ hJ hd => ?_) ?_
    · have e18 : vals 18 = _ := hd 18 (by decide)
      rw [e18]
      exact ⟨by kernel_rfl, by kernel_rfl, rfl⟩
    refine wpO_cons (oskip fun w_ hJ hd => ?_) ?_
    · have e19 : vals 19 = _ := hd 19 (by decide)
      rw [e19]
      exact ⟨by kernel_rfl, rfl⟩
    refine wpO_cons (oskip fun w_ hJ hd => ?_) ?_
    · have e19 : vals 19 = _ := hd 19 (by decide)
      rw [e19]
      exact ⟨by kernel_rfl, rfl⟩
    refine wpO_cons (oskip fun w_ hJ hd => ?_) ?_
    · have e19 : vals 19 = _ := hd 19 (by decide)
      rw [e19]
      exact ⟨by kernel_rfl, rfl⟩
    refine wpO_cons (oskip fun w_ hJ hd => ?_) ?_
    · have e19 : vals 19 = _ := hd 19 (by decide)
      rw [e19]
      exact ⟨by kernel_rfl, rfl⟩
    refine wpO_cons (oskip fun w_ hJ hd => ?_) ?_
    · have e19 : vals 19 = _ := hd 19 (by decide)
      rw [e19]
      exact ⟨by kernel_rfl, rfl⟩
    refine wpO_cons (oval (.bool false) GN.refl fun w_ hJ hd => ?_) ?_
    · have e19 : vals 19 = _ := hd 19 (by decide)
      have e24 : vals 24 = _ := hd 24 (by decide)
      rw [e19, e24]
      exact ⟨by kernel_rfl, by kernel_rfl, rfl⟩
    refine wpO_cons (oval (.bool false) GN.refl fun w_ hJ hd => ?_) ?_
    · have e25 : vals 25 = _ := hd 25 (by decide)
      rw [e25]
      exact ⟨by kernel_rfl, by kernel_rfl, rfl⟩
    refine wpO_cons (oskip fun w_ hJ hd => ?_) ?_
    · have e26 : vals 26 = _ := hd 26 (by decide)
      rw [e26]
      exact ⟨by kernel_rfl, rfl⟩
    refine wpO_cons (oskip fun w_ hJ hd => ?_) ?_
    · have e26 : vals 26 = _ := hd 26 (by decide)
      rw [e26]
      exact ⟨by kernel_rfl, rfl⟩
    refine wpO_cons (oskip fun w_ hJ hd => ?_) ?_
    · have e26 : vals 26 = _ := hd 26 (by decide)
      rw [e26]
      exact ⟨by kernel_rfl, rfl⟩
    refine wpO_cons (oskip fun w_ hJ hd => ?_) ?_
    · have e26 : vals 26 = _ := hd 26 (by decide)
      rw [e26]
      exact ⟨by kernel_rfl, rfl⟩
    refine wpO_cons (oskip fun w_ hJ hd => ?_) ?_
    · have e26 : vals 26 = _ := hd 26 (by decide)
      rw [e26]
      exact ⟨by kernel_rfl, rfl⟩
    refine wpO_cons (oval (.bool false) GN.refl fun w_ hJ hd => ?_) ?_
    · have e26 : vals 26 = _ := hd 26 (by decide)
      have e31 : vals 31 = _ := hd 31 (by decide)
      rw [e26, e31]
      exact ⟨by kernel_rfl, by kernel_rfl, rfl⟩
    refine wpO_cons (oval (.bool false) GN.refl fun w_ hJ hd => ?_) ?_
    · have e32 : vals 32 = _ := hd 32 (by decide)
      rw [e32]
      exact ⟨by kernel_rfl, by kernel_rfl, rfl⟩
    refine wpO_cons (oskip fun w_ hJ hd => ?_) ?_
    · have e33 : vals 33 = _ := hd 33 (by decide)
      rw [e33]
      exact ⟨by kernel_rfl, rfl⟩
    refine wpO_cons (oskip fun w_ hJ hd => ?_) ?_
    · have e33 : vals 33 = _ := hd 33 (by decide)
      rw [e33]
      exact ⟨by kernel_rfl, rfl⟩
    refine wpO_cons (oskip fun w_ hJ hd => ?_) ?_
    · have e33 : vals 33 = _ := hd 33 (by decide)
      rw [e33]
      exact ⟨by kernel_rfl, rfl⟩
    refine wpO_cons (oskip fun w_ hJ hd => ?_) ?_
    · have e33 : vals 33 = _ := hd 33 (by decide)
      rw [e33]
      exact ⟨by kernel_rfl, rfl⟩
    refine wpO_cons (oskip fun w_ hJ hd => ?_) ?_
    · have e33 : vals 33 = _ := hd 33 (by decide)
      rw [e33]
      exact ⟨by kernel_rfl, rfl⟩
    refine wpO_cons (oval (.bool false) GN.refl fun w_ hJ hd => ?_) ?_
    · have e33 : vals 33 = _ := hd 33 (by decide)
      have e38 : vals 38 = _ := hd 38 (by decide)
      rw [e33, e38]
      exact ⟨by kernel_rfl, by kernel_rfl, rfl⟩
    refine wpO_cons (oval (.bool false) GN.refl fun w_ hJ hd => ?_) ?_
    · have e39 : vals 39 = _ := hd 39 (by decide)
      rw [e39]
      exact ⟨by kernel_rfl, by kernel_rfl, rfl⟩
    refine wpO_cons (oskip fun w_ hJ hd => ?_) ?_
    · have e40 : vals 40 = _ := hd 40 (by decide)
      rw [e40]
      exact ⟨by kernel_rfl, rfl⟩
    refine wpO_cons (oskip fun w_ hJ hd => ?_) ?_
    · have e40 : vals 40 = _ := hd 40 (by decide)
      rw [e40]
      exact ⟨by kernel_rfl, rfl⟩
    refine wpO_cons (oskip fun w_ hJ hd => ?_) ?_
    · have e40 : vals 40 = _ := hd 40 (by decide)
      rw [e40]
      exact ⟨by kernel_rfl, rfl⟩
    refine wpO_cons (oskip fun w_ hJ hd => ?_) ?_
    · have e40 : vals 40 = _ := hd 40 (by decide)
      rw [e40]
      exact ⟨by kernel_rfl, rfl⟩
    refine wpO_cons (oskip fun w_ hJ hd => ?_) ?_
    · have e40 : vals 40 = _ := hd 40 (by decide)
      rw [e40]
      exact ⟨by kernel_rfl, rfl⟩
    refine wpO_cons (oval (.bool false) GN.refl fun w_ hJ hd => ?_) ?_
    · have e40 : vals 40 = _ := hd 40 (by decide)
      have e45 : vals 45 = _ := hd 45 (by decide)
      rw [e40, e45]
      exact ⟨by kernel_rfl, by kernel_rfl, rfl⟩
    refine wpO_cons (oval (.bool false) GN.refl fun w_ hJ hd => ?_) ?_
    · have e46 : vals 46 = _ := hd 46 (by decide)
      rw [e46]
      exact ⟨by kernel_rfl, by kernel_rfl, rfl⟩
    refine wpO_cons (oskip fun w_ hJ hd => ?_) ?_
    · have e47 : vals 47 = _ := hd 47 (by decide)
      rw [e47]
      exact ⟨by kernel_rfl, rfl⟩
    refine wpO_cons (oskip fun w_ hJ hd => ?_) ?_
    · have e47 : vals 47 = _ := hd 47 (by decide)
      rw [e47]
      exact ⟨by kernel_rfl, rfl⟩
    refine wpO_cons (oskip fun w_ hJ hd => ?_) ?_
    · have e47 : vals 47 = _ := hd 47 (by decide)
      rw [e47]
      exact ⟨by kernel_rfl, rfl⟩
    refine wpO_cons (oskip fun w_ hJ hd => ?_) ?_
    · have e47 : vals 47 = _ := hd 47 (by decide)
      rw [e47]
      exact ⟨by kernel_rfl, rfl⟩
    refine wpO_cons (oskip fun w_ hJ hd => ?_) ?_
    · have e47 : vals 47 = _ := hd 47 (by decide)
      rw [e47]
      exact ⟨by kernel_rfl, rfl⟩
    refine wpO_cons (oskip fun w_ hJ hd => ?_) ?_
    · have e47 : vals 47 = _ := hd 47 (by decide)
      rw [e47]
      exact ⟨by kernel_rfl, rfl⟩
    refine wpO_cons (oskip fun w_ hJ hd => ?_) ?_
    · have e47 : vals 47 = _ := hd 47 (by decide)
      rw [e47]
      exact ⟨by kernel_rfl, rfl⟩
    refine wpO_cons (oskip fun w_ hJ hd => ?_) ?_
    · have e47 : vals 47 = _ := hd 47 (by decide)
      rw [e47]
      exact ⟨by kernel_rfl, rfl⟩
    refine wpO_cons (oskip fun w_ hJ hd => ?_) ?_
    · have e47 : vals 47 = _ := hd 47 (by decide)
      rw [e47]
      exact ⟨by kernel_rfl, rfl⟩
    refine wpO_cons (oskip fun w_ hJ hd => ?_) ?_
    · have e47 : vals 47 = _ := hd 47 (by decide)
      rw [e47]
      exact ⟨by kernel_rfl, rfl⟩
    refine wpO_cons (oval (.bool false) GN.refl fun w_ hJ hd => ?_) ?_
    · have e47 : vals 47 = _ := hd 47 (by decide)
      have e57 : vals 57 = _ := hd 57 (by decide)
      rw [e47, e57]
      exact ⟨by kernel_rfl, by kernel_rfl, rfl⟩
    refine wpO_cons (oval (.bool false) GN.refl fun w_ hJ hd => ?_) wpO_nil
    · have e58 : vals 58 = _ := hd 58 (by decide)
      rw [e58]
      exact ⟨by kernel_rfl, by kernel_rfl, rfl⟩
  · intro vals w_ hJ hf
    have e0 : vals 0 = _ := hf 0 (by decide)
    have e1 : vals 1 = _ := hf 1 (by decide)
    have e2 : vals 2 = _ := hf 2 (by decide)
    have e3 : vals 3 = _ := hf 3 (by decide)
    have e4 : vals 4 = _ := hf 4 (by decide)
    have e5 : vals 5 = _ := hf 5 (by decide)
    have e6 : vals 6 = _ := hf 6 (by decide)
    have e7 : vals 7 = _ := hf 7 (by decide)
    have e8 : vals 8 = _ := hf 8 (by decide)
    have e9 : vals 9 = _ := hf 9 (by decide)
    have e10 : vals 10 = _ := hf 10 (by decide)
    have e11 : vals 11 = _ := hf 11 (by decide)
    have e12 : vals 12 = _ := hf 12 (by decide)
    have e13 : vals 13 = _ := hf 13 (by decide)
    have e14 : vals 14 = _ := hf 14 (by decide)
    have e15 : vals 15 = _ := hf 15 (by decide)
    have e16 : vals 16 = _ := hf 16 (by decide)
    have e17 : vals 17 = _ := hf 17 (by decide)
    have e18 : vals 18 = _ := hf 18 (by decide)
    have e19 : vals 19 = _ := hf 19 (by decide)
    have e20 : vals 20 = _ := hf 20 (by decide)
    have e21 : vals 21 = _ := hf 21 (by decide)
    have e22 : vals 22 = _ := hf 22 (by decide)
    have e23 : vals 23 = _ := hf 23 (by decide)
    have e24 : vals 24 = _ := hf 24 (by decide)
    have e25 : vals 25 = _ := hf 25 (by decide)
    have e26 : vals 26 = _ := hf 26 (by decide)
    have e27 : vals 27 = _ := hf 27 (by decide)
    have e28 : vals 28 = _ := hf 28 (by decide)
    have e29 : vals 29 = _ := hf 29 (by decide)
    have e30 : vals 30 = _ := hf 30 (by decide)
    have e31 : vals 31 = _ := hf 31 (by decide)
    have e32 : vals 32 = _ := hf 32 (by decide)
    have e33 : vals 33 = _ := hf 33 (by decide)
    have e34 : vals 34 = _ := hf 34 (by decide)
    have e35 : vals 35 = _ := hf 35 (by decide)
    have e36 : vals 36 = _ := hf 36 (by decide)
    have e37 : vals 37 = _ := hf 37 (by decide)
    have e38 : vals 38 = _ := hf 38 (by decide)
    have e39 : vals 39 = _ := hf 39 (by decide)
    have e40 : vals 40 = _ := hf 40 (by decide)
    have e41 : vals 41 = _ := hf 41 (by decide)
    have e42 : vals 42 = _ := hf 42 (by decide)
    have e43 : vals 43 = _ := hf 43 (by decide)
    have e44 : vals 44 = _ := hf 44 (by decide)
    have e45 : vals 45 = _ := hf 45 (by decide)
    have e46 : vals 46 = _ := hf 46 (by decide)
    have e47 : vals 47 = _ := hf 47 (by decide)
    have e48 : vals 48 = _ := hf 48 (by decide)
    have e49 : vals 49 = _ := hf 49 (by decide)
    have e50 : vals 50 = _ := hf 50 (by decide)
    have e51 : vals 51 = _ := hf 51 (by decide)
    have e52 : vals 52 = _ := hf 52 (by decide)
    have e53 : vals 53 = _ := hf 53 (by decide)
    have e54 : vals 54 = _ := hf 54 (by decide)
    have e55 : vals 55 = _ := hf 55 (by decide)
    have e56 : vals 56 = _ := hf 56 (by decide)
    have e57 : vals 57 = _ := hf 57 (by decide)
    have e58 : vals 58 = _ := hf 58 (by decide)
    have e59 : vals 59 = _ := hf 59 (by decide)
    show Exit.then _ _ _ (fillG vals 0 (_ :: _ :: _ :: _ :: _ :: _ :: _ :: _ :: _ :: _ :: _ :: _ :: _ :: _ :: _ :: _ :: _ :: _ :: _ :: _ :: _ :: _ :: _ :: _ :: _ :: _ :: _ :: _ :: _ :: _ :: _ :: _ :: _ :: _ :: _ :: _ :: _ :: _ :: _ :: _ :: _ :: _ :: _ :: _ :: _ :: _ :: _ :: _ :: _ :: _ :: _ :: _ :: _ :: _ :: _ :: _ :: _ :: _ :: _ :: _ :: []) _) _
    simp only [fillG, Nat.zero_add, Nat.reduceAdd, e0, e1, e2, e3, e4, e5, e6, e7, e8, e9, e10, e11, e12, e13, e14, e15, e16, e17, e18, e19, e20, e21, e22, e23, e24, e25, e26, e27, e28, e29, e30, e31, e32, e33, e34, e35, e36, e37, e38, e39, e40, e41, e42, e43, e44, e45, e46, e47, e48, e49, e50, e51, e52, e53, e54, e55, e56, e57, e58, e59, Act.put, List.setIfInBounds_toArray, List.set_cons_succ, List.set_cons_zero]
    clear e0 e1 e2 e3 e4 e5 e6 e7 e8 e9 e10 e11 e12 e13 e14 e15 e16 e17 e18 e19 e20 e21 e22 e23 e24 e25 e26 e27 e28 e29 e30 e31 e32 e33 e34 e35 e36 e37 e38 e39 e40 e41 e42 e43 e44 e45 e46 e47 e48 e49 e50 e51 e52 e53 e54 e55 e56 e57 e58 e59 hf
    have hg := GN.trans (unhide HG) hJ
    clear hJ H1 H2 Hx Hy h0 h1 h2
    have Hg := hide hg
    clear hg
    go_wp2
    go_ret
    exact ⟨rfl, unhide Hg⟩
set_option maxRecDepth 100000 in
set_option maxHeartbeats 4000000 in
theorem same_d3 {x y : It} (hx : II x) (hy : II y) (h0 : Hid (x.pc = y.pc)) (h1 : Hid (x.bits = y.bits)) (h2 : Hid (x.inst = y.inst)) (h3 : Hid (x.size ≠ y.size)) (w : World) :
    Calls Tryd.prog 24 #[.agg (itl x).toArray, .agg (itl y).toArray] w fun r w' => r = .returned (.bool false) ∧ GN w w' := by
  have J := ((Heap.nil w).new (itl x).toArray 38).new (itl y).toArray 61
  obtain ⟨k1, hk1⟩ : ∃ k, w.heap.size = k := ⟨_, rfl⟩
  simp only [World.size_alloc, hk1] at J
  have H := hide J
  have Hx := hide hx
  have Hy := hide hy
  clear J hx hy
  go_enter Tryd.func24, Tryd.ntmps24
  go_upto_region 1 with fail
  have J := unhide H
  obtain ⟨k2, hk2⟩ : ∃ k, k1 + 1 = k := ⟨_, rfl⟩
  rw [hk2] at J ⊢
  generalize (w.alloc (.cells (itl x).toArray 38)).alloc (.cells (itl y).toArray 61) = w2 at J ⊢
  have H1 := hide (Heap.heap J.f2)
  have H2 := hide (Heap.heap J)
  have HG := hide (gn_of_below J.below)
  clear H J hk1 hk2
  refine wp_list_O (fun w_ => GN w2 w_) GN (fun k_ v_ w_ => match k_ with
      | 0 => v_ = .pointer (some ⟨k1, 0 + 0, none⟩)
      | 1 => v_ = .int .u64 x.pc
      | 2 => v_ = .pointer (some ⟨k2, 0 + 0, none⟩)
      | 3 => v_ = .int .u64 y.pc
      | 4 => v_ = .bool true
      | 5 => v_ = .bool true
      | 6 => v_ = .pointer (some ⟨k1, 0 + 1, none⟩)
      | 7 => v_ = .int .u32 x.bits
      | 8 => v_ = .pointer (some ⟨k2, 0 + 1, none⟩)
      | 9 => v_ = .int .u32 y.bits
      | 10 => v_ = .bool true
      | 11 => v_ = .bool true
      | 12 => v_ = .bool true
      | 13 => v_ = .pointer (some ⟨k1, 0 + 2, none⟩)
      | 14 => v_ = .int .u32 x.inst
      | 15 => v_ = .pointer (some ⟨k2, 0 + 2, none⟩)
      | 16 => v_ = .int .u32 y.inst
      | 17 => v_ = .bool true
      | 18 => v_ = .bool true
      | 19 => v_ = .bool true
      | 20 => v_ = .pointer (some ⟨k1, 0 + 3, none⟩)
      | 21 => v_ = .int .i64 x.size
      | 22 => v_ = .pointer (some ⟨k2, 0 + 3, none⟩)
      | 23 => v_ = .int .i64 y.size
      | 24 => v_ = .bool false
      | 25 => v_ = .bool false
      | 26 => v_ = .bool false
      | 27 => v_ = undef
      | 28 => v_ = undef
      | 29 => v_ = undef
      | 30 => v_ = undef
      | 31 => v_ = undef
      | 32 => v_ = .bool false
      | 33 => v_ = .bool false
      | 34 => v_ = undef
      | 35 => v_ = undef
      | 36 => v_ = undef
      | 37 => v_ = undef
      | 38 => v_ = undef
      | 39 => v_ = .bool false
      | 40 => v_ = .bool false
      | 41 => v_ = undef
      | 42 => v_ = undef
      | 43 => v_ = undef
      | 44 => v_ = undef
      | 45 => v_ = undef
      | 46 => v_ = .bool false
      | 47 => v_ = .bool false
      | 48 => v_ = undef
      | 49 => v_ = undef
      | 50 => v_ = undef
      | 51 => v_ = undef
      | 52 => v_ = undef
      | 53 => v_ = undef
      | 54 => v_ = undef
      | 55 => v_ = undef
      | 56 => v_ = undef
      | 57 => v_ = undef
      | 58 => v_ = .bool false
      | _ => v_ = .bool false) ?_ ?_ GN.refl ?_ ?_
  · exact GN.refl w2
  · intro k_ v_ w_ w2_ h1 hg
    split at h1 <;> exact h1
  · intro vals
    show wpO _ _ _ _ _ _ 0 (_ :: _) _
    refine wpO_cons (oval (.pointer (some ⟨k1, 0 + 0, none⟩)) GN.refl fun w_ hJ hd => ?_) ?_
    · exact ⟨by kernel_rfl, by kernel_rfl, rfl⟩
    refine wpO_cons (oop (Instr.loadAt 22 (.pointer (some ⟨k1, 0 + 0, none⟩))) (.int .u64 x.pc) GN.refl fun w_ hJ hd => ?_) ?_
    · have e0 : vals 0 = _ := hd 0 (by decide)
      rw [e0]
      exact ⟨by kernel_rfl, by kernel_rfl, run_load1 (by kernel_rfl) (cell_blk (hJ.heap (unhide H1)) 0).1, rfl⟩
    refine wpO_cons (oval (.pointer (some ⟨k2, 0 + 0, none⟩)) GN.refl fun w_ hJ hd => ?_) ?_
    · exact ⟨by kernel_rfl, by kernel_rfl, rfl⟩
    refine wpO_cons (oop (Instr.loadAt 22 (.pointer (some ⟨k2, 0 + 0, none⟩))) (.int .u64 y.pc) GN.refl fun w_ hJ hd => ?_) ?_
    · have e2 : vals 2 = _ := hd 2 (by decide)
      rw [e2]
      exact ⟨by kernel_rfl, by kernel_rfl, run_load1 (by kernel_rfl) (cell_blk (hJ.heap (unhide H2)) 0).1, rfl⟩
    refine wpO_cons (oop (binOp .eql 22 (.int .u64 x.pc) (.int .u64 y.pc)) (.bool true) GN.refl fun w_ hJ hd => ?_) ?_
    · have e1 : vals 1 = _ := hd 1 (by decide)
      have e3 : vals 3 = _ := hd 3 (by decide)
      rw [e1, e3]
      exact ⟨by kernel_rfl, by kernel_rfl, run_eq22t (unhide h0) w_, rfl⟩
    refine wpO_cons (oval (.bool true) GN.refl fun w_ hJ hd => ?_) ?_
    · have e4 : vals 4 = _ := hd 4 (by decide)
      rw [e4]
      exact ⟨by kernel_rfl, by kernel_rfl, rfl⟩
    refine wpO_cons (oval (.pointer (some ⟨k1, 0 + 1, none⟩)) GN.refl fun w_ hJ hd => ?_) ?_
    · have e5 : vals 5 = _ := hd 5 (by decide)
      rw [e5]
      exact ⟨by kernel_rfl, by kernel_rfl, rfl⟩
    refine wpO_cons (oop (Instr.loadAt 33 (.pointer (some ⟨k1, 0 + 1, none⟩))) (.int .u32 x.bits) GN.refl fun w_ hJ hd => ?_) ?_
    · have e6 : vals 6 = _ := hd 6 (by decide)
      have e5 : vals 5 = _ := hd 5 (by decide)
      rw [e6, e5]
      exact ⟨by kernel_rfl, by kernel_rfl, run_load1 (by kernel_rfl) (cell_blk (hJ.heap (unhide H1)) 1).1, rfl⟩
    refine wpO_cons (oval (.pointer (some ⟨k2, 0 + 1, none⟩)) GN.refl fun w_ hJ hd => ?_) ?_
    · have e5 : vals 5 = _ := hd 5 (by decide)
      rw [e5]
      exact ⟨by kernel_rfl, by kernel_rfl, rfl⟩
    refine wpO_cons (oop (Instr.loadAt 33 (.pointer (some ⟨k2, 0 + 1, none⟩))) (.int .u32 y.bits) GN.refl fun w_ hJ hd => ?_) ?_
    · have e8 : vals 8 = _ := hd 8 (by decide)
      have e5 : vals 5 = _ := hd 5 (by decide)
      rw [e8, e5]
      exact ⟨by kernel_rfl, by kernel_rfl, run_load1 (by kernel_rfl) (cell_blk (hJ.heap (unhide H2)) 1).1, rfl⟩
    refine wpO_cons (oop (binOp .eql 33 (.int .u32 x.bits) (.int .u32 y.bits)) (.bool true) GN.refl fun w_ hJ hd => ?_) ?_
    · have e7 : vals 7 = _ := hd 7 (by decide)
      have e9 : vals 9 = _ := hd 9 (by decide)
      have e5 : vals 5 = _ := hd 5 (by decide)
      rw [e7, e9, e5]
      exact ⟨by kernel_rfl, by kernel_rfl, run_eq33t (unhide h1) w_, rfl⟩
    refine wpO_cons (oval (.bool true) GN.refl fun w_ hJ hd => ?_) ?_
    · have e5 : vals 5 = _ := hd 5 (by decide)
      have e10 : vals 10 = _ := hd 10 (by decide)
      rw [e5, e10]
      exact ⟨by kernel_rfl, by kernel_rfl, rfl⟩
    refine wpO_cons (oval (.bool true) GN.refl fun w_ hJ hd => ?_) ?_
    · have e11 : vals 11 = _ := hd 11 (by decide)
      rw [e11]
      exact ⟨by kernel_rfl, by kernel_rfl, rfl⟩
    refine wpO_cons (oval (.pointer (some ⟨k1, 0 + 2, none⟩)) GN.refl fun w_ hJ hd => ?_) ?_
    · have e12 : vals 12 = _ := hd 12 (by decide)
      rw [e12]
      exact ⟨by kernel_rfl, by kernel_rfl, rfl⟩
    refine wpO_cons (oop (Instr.loadAt 33 (.pointer (some ⟨k1, 0 + 2, none⟩))) (.int .u32 x.inst) GN.refl fun w_ hJ hd => ?_) ?_
    · have e13 : vals 13 = _ := hd 13 (by decide)
      have e12 : vals 12 = _ := hd 12 (by decide)
      rw [e13, e12]
      exact ⟨by kernel_rfl, by kernel_rfl, run_load1 (by kernel_rfl) (cell_blk (hJ.heap (unhide H1)) 2).1, rfl⟩
    refine wpO_cons (oval (.pointer (some ⟨k2, 0 + 2, none⟩)) GN.refl fun w_ hJ hd => ?_) ?_
    · have e12 : vals 12 = _ := hd 12 (by decide)
      rw [e12]
      exact ⟨by kernel_rfl, by kernel_rfl, rfl⟩
    refine wpO_cons (oop (Instr.loadAt 33 (.pointer (some ⟨k2, 0 + 2, none⟩))) (.int .u32 y.inst) GN.refl fun w_ hJ hd => ?_) ?_
    · have e15 : vals 15 = _ := hd 15 (by decide)
      have e12 : vals 12 = _ := hd 12 (by decide)
      rw [e15, e12]
      exact ⟨by kernel_rfl, by kernel_rfl, run_load1 (by kernel_rfl) (cell_blk (hJ.heap (unhide H2)) 2).1, rfl⟩
    refine wpO_cons (oop (binOp .eql 33 (.int .u32 x.inst) (.int .u32 y.inst)) (.bool true) GN.refl fun w_ hJ hd => ?_) ?_
    · have e14 : vals 14 = _ := hd 14 (by decide)
      have e16 : vals 16 = _ := hd 16 (by decide)
      have e12 : vals 12 = _ := hd 12 (by decide)
      rw [e14, e16, e12]
      exact ⟨by kernel_rfl, by kernel_rfl, run_eq33t (unhide h2) w_, rfl⟩
    refine wpO_cons (oval (.bool true) GN.refl fun w_ hJ hd => ?_) ?_
    · have e12 : vals 12 = _ := hd 12 (by decide)
      have e17 : vals 17 = _ := hd 17 (by decide)
      rw [e12, e17]
      exact ⟨by kernel_rfl, by kernel_rfl, rfl⟩
    refine wpO_cons (oval (.bool true) GN.refl fun w_ hJ hd => ?_) ?_
    · have e18 : vals 18 = _ := hd 18 (by decide)
      rw [e18]
      exact ⟨by kernel_rfl, by kernel_rfl, rfl⟩
    refine wpO_cons (oval (.pointer (some ⟨k1, 0 + 3, none⟩)) GN.refl fun w_ hJ hd => ?_) ?_
    · have e19 : vals 19 = _ := hd 19 (by decide)
      rw [e19]
      exact ⟨by kernel_rfl, by kernel_rfl, rfl⟩
    refine wpO_cons (oop (Instr.loadAt 3 (.pointer (some ⟨k1, 0 + 3, none⟩))) (.int .i64 x.size) GN.refl fun w_ hJ hd => ?_) ?_
    · have e20 : vals 20 = _ := hd 20 (by decide)
      have e19 : vals 19 = _ := hd 19 (by decide)
      rw [e20, e19]
      exact ⟨by kernel_rfl, by kernel_rfl, run_load1 (by kernel_rfl) (cell_blk (hJ.heap (unhide H1)) 3).1, rfl⟩
    refine wpO_cons (oval (.pointer (some ⟨k2, 0 + 3, none⟩)) GN.refl fun w_ hJ hd => ?_) ?_
    · have e19 : vals 19 = _ := hd 19 (by decide)
      rw [e19]
      exact ⟨by kernel_rfl, by kernel_rfl, rfl⟩
    refine wpO_cons (oop (Instr.loadAt 3 (.pointer (some ⟨k2, 0 + 3, none⟩))) (.int .i64 y.size) GN.refl fun w_ hJ hd => ?_) ?_
    · have e22 : vals 22 = _ := hd 22 (by decide)
      have e19 : vals 19 = _ := hd 19 (by decide)
      rw [e22, e19]
      exact ⟨by kernel_rfl, by kernel_rfl, run_load1 (by kernel_rfl) (cell_blk (hJ.heap (unhide H2)) 3).1, rfl⟩
    refine wpO_cons (oop (binOp .eql 3 (.int .i64 x.size) (.int .i64 y.size)) (.bool false) GN.refl fun w_ hJ hd => ?_) ?_
    · have e21 : vals 21 = _ := hd 21 (by decide)
      have e23 : vals 23 = _ := hd 23 (by decide)
      have e19 : vals 19 = _ := hd 19 (by decide)
      rw [e21, e23, e19]
      exact ⟨by kernel_rfl, by kernel_rfl, run_eq3f (unhide h3) w_, rfl⟩
    refine wpO_cons (oval (.bool false) GN.refl fun w_ hJ hd => ?_) ?_
    · have e19 : vals 19 = _ := hd 19 (by decide)
      have e24 : vals 24 = _ := hd 24 (by decide)
      rw [e19, e24]
      exact ⟨by kernel_rfl, by kernel_rfl, rfl⟩
    refine wpO_cons (oval (.bool false) GN.refl fun w_ hJ hd => ?_) ?_
    · have e25 : vals 25 = _ := hd 25 (by decide)
      rw [e25]
      exact ⟨by kernel_rfl, by kernel_rfl, rfl⟩
    refine wpO_cons (oskip fun w_ hJ hd => ?_) ?_
    · have e26 : vals 26 = _ := hd 26 (by decide)
      rw [e26]
      exact ⟨by kernel_rfl, rfl⟩
    refine wpO_cons (oskip fun w_ hJ hd => ?_) ?_
    · have e26 : vals 26 = _ := hd 26 (by decide)
      rw [e26]
      exact ⟨by kernel_rfl, rfl⟩
    refine wpO_cons (oskip fun w_ hJ hd => ?_) ?_
    · have e26 : vals 26 = _ := hd 26 (by decide)
      rw [e26]
      exact ⟨by kernel_rfl, rfl⟩
    refine wpO_cons (oskip fun w_ hJ hd => ?_) ?_
    · have e26 : vals 26 = _ := hd 26 (by decide)
      rw [e26]
      exact ⟨by kernel_rfl, rfl⟩
    refine wpO_cons (oskip fun w_ hJ hd => ?_) ?_
    · have e26 : vals 26 = _ := hd 26 (by decide)
      rw [e26]
      exact ⟨by kernel_rfl, rfl⟩
    refine wpO_cons (oval (.bool false) GN.refl fun w_ hJ hd => ?_) ?_
    · have e26 : vals 26 = _ := hd 26 (by decide)
      have e31 : vals 31 = _ := hd 31 (by decide)
      rw [e26, e31]
      exact ⟨by kernel_rfl, by kernel_rfl, rfl⟩
    refine wpO_cons (oval (.bool false) GN.refl fun w_ hJ hd => ?_) ?_
    · have e32 : vals 32 = _ := hd 32 (by decide)
      rw [e32]
      exact ⟨by kernel_rfl, by kernel_rfl, rfl⟩
    refine wpO_cons (oskip fun w_ hJ hd => ?_) ?_
    · have e33 : vals 33 = _ := hd 33 (by decide)
      rw [e33]
      exact ⟨by kernel_rfl, rfl⟩
    refine wpO_cons (oskip fun w_ hJ hd => ?_) ?_
    · have e33 : vals 33 = _ := hd 33 (by decide)
      rw [e33]
      exact ⟨by kernel_rfl, rfl⟩
    refine wpO_cons (oskip fun w_ hJ hd => ?_) ?_
    · have e33 : vals 33 = _ := hd 33 (by decide)
      rw [e33]
      exact ⟨by kernel_rfl, rfl⟩
    refine wpO_cons (oskip fun w_ hJ hd => ?_) ?_
    · have e33 : vals 33 = _ := hd 33 (by decide)
      rw [e33]
      exact ⟨by kernel_rfl, rfl⟩
    refine wpO_cons (oskip fun w_ hJ hd => ?_) ?_
    · have e33 : vals 33 = _ := hd 33 (by decide)
      rw [e33]
      exact ⟨by kernel_rfl, rfl⟩
    refine wpO_cons (oval (.bool false) GN.refl fun w_ hJ hd => ?_) ?_
    · have e33 : vals 33 = _ := hd 33 (by decide)
      have e38 : vals 38 = _ := hd 38 (by decide)
      rw [e33, e38]
      exact ⟨by kernel_rfl, by kernel_rfl, rfl⟩
    refine wpO_cons (oval (.bool false) GN.refl fun w_ hJ hd => ?_) ?_
    · have e39 : vals 39 = _ := hd 39 (by decide)
      rw [e39]
      exact ⟨by kernel_rfl, by kernel_rfl, rfl⟩
    refine wpO_cons (oskip fun w_ hJ hd => ?_) ?_
    · have e40 : vals 40 = _ := hd 40 (by decide)
      rw [e40]
      exact ⟨by kernel_rfl, rfl⟩
    refine wpO_cons (oskip fun w_ hJ hd => ?_) ?_
    · have e40 : vals 40 = _ := hd 40 (by decide)
      rw [e40]
      exact ⟨by kernel_rfl, rfl⟩
    refine wpO_cons (oskip fun w_ hJ hd => ?_) ?_
    · have e40 : vals 40 = _ := hd 40 (by decide)
      rw [e40]
      exact ⟨by kernel_rfl, rfl⟩
    refine wpO_cons (oskip fun w_ hJ hd => ?_) ?_
    · have e40 : vals 40 = _ := hd 40 (by decide)
      rw [e40]
      exact ⟨by kernel_rfl, rfl⟩
    refine wpO_cons (oskip fun w_ hJ hd => ?_) ?_
    · have e40 : vals 40 = _ := hd 40 (by decide)
      rw [e40]
      exact ⟨by kernel_rfl, rfl⟩
    refine wpO_cons (oval (.bool false) GN.refl fun w_ hJ hd => ?_) ?_
    · have e40 : vals 40 = _ := hd 40 (by decide)
      have e45 : vals 45 = _ := hd 45 (by decide)
      rw [e40, e45]
      exact ⟨by kernel_rfl, by kernel_rfl, rfl⟩
    refine wpO_cons (oval (.bool false) GN.refl fun w_ hJ hd => ?_) ?_
    · have e46 : vals 46 = _ := hd 46 (by decide)
      rw [e46]
      exact ⟨by kernel_rfl, by kernel_rfl, rfl⟩
    refine wpO_cons (oskip fun w_ hJ hd => ?_) ?_
    · have e47 : vals 47 = _ := hd 47 (by decide)
      rw [e47]
      exact ⟨by kernel_rfl, rfl⟩
    refine wpO_cons (oskip fun w_ hJ hd => ?_) ?_
    · have e47 : vals 47 = _ := hd 47 (by decide)
      rw [e47]
      exact ⟨by kernel_rfl, rfl⟩
    refine wpO_cons (oskip fun w_ hJ hd => ?_) ?_
    · have e47 : vals 47 = _ := hd 47 (by decide)
      rw [e47]
      exact ⟨by kernel_rfl, rfl⟩
    refine wpO_cons (oskip fun w_ hJ hd => ?_) ?_
    · have e47 : vals 47 = _ := hd 47 (by decide)
      rw [e47]
      exact ⟨by kernel_rfl, rfl⟩
    refine wpO_cons (oskip fun w_ hJ hd => ?_) ?_
    · have e47 : vals 47 = _ := hd 47 (by decide)
      rw [e47]
      exact ⟨by kernel_rfl, rfl⟩
    refine wpO_cons (oskip fun w_ hJ hd => ?_) ?_
    · have e47 : vals 47 = _ := hd 47 (by decide)
      rw [e47]
      exact ⟨by kernel_rfl, rfl⟩
    refine wpO_cons (oskip fun w_ hJ hd => ?_) ?_
    · have e47 : vals 47 = _ := hd 47 (by decide)
      rw [e47]
      exact ⟨by kernel_rfl, rfl⟩
    refine wpO_cons (oskip fun w_ hJ hd => ?_) ?_
    · have e47 : vals 47 = _ := hd 47 (by decide)
      rw [e47]
      exact ⟨by kernel_rfl, rfl⟩
    refine wpO_cons (oskip fun w_ hJ hd => ?_) ?_
    · have e47 : vals 47 = _ := hd 47 (by decide)
      rw [e47]
      exact ⟨by kernel_rfl, rfl⟩
    refine wpO_cons (oskip fun w_ hJ hd => ?_) ?_
    · have e47 : vals 47 = _ := hd 47 (by decide)
      rw [e47]
      exact ⟨by kernel_rfl, rfl⟩
    refine wpO_cons (oval (.bool false) GN.refl fun w_ hJ hd => ?_) ?_
    · have e47 : vals 47 = _ := hd 47 (by decide)
      have e57 : vals 57 = _ := hd 57 (by decide)
      rw [e47, e57]
      exact ⟨by kernel_rfl, by kernel_rfl, rfl⟩
    refine wpO_cons (oval (.bool false) GN.refl fun w_ hJ hd => ?_) wpO_nil
    · have e58 : vals 58 = _ := hd 58 (by decide)
      rw [e58]
      exact ⟨by kernel_rfl, by kernel_rfl, rfl⟩
  · intro vals w_ hJ hf
    have e0 : vals 0 = _ := hf 0 (by decide)
    have e1 : vals 1 = _ := hf 1 (by decide)
    have e2 : vals 2 = _ := hf 2 (by decide)
    have e3 : vals 3 = _ := hf 3 (by decide)
    have e4 : vals 4 = _ := hf 4 (by decide)
    have e5 : vals 5 = _ := hf 5 (by decide)
    have e6 : vals 6 = _ := hf 6 (by decide)
    have e7 : vals 7 = _ := hf 7 (by decide)
    have e8 : vals 8 = _ := hf 8 (by decide)
    have e9 : vals 9 = _ := hf 9 (by decide)
    have e10 : vals 10 = _ := hf 10 (by decide)
    have e11 : vals 11 = _ := hf 11 (by decide)
    have e12 : vals 12 = _ := hf 12 (by decide)
    have e13 : vals 13 = _ := hf 13 (by decide)
    have e14 : vals 14 = _ := hf 14 (by decide)
    have e15 : vals 15 = _ := hf 15 (by decide)
    have e16 : vals 16 = _ := hf 16 (by decide)
    have e17 : vals 17 = _ := hf 17 (by decide)
    have e18 : vals 18 = _ := hf 18 (by decide)
    have e19 : vals 19 = _ := hf 19 (by decide)
    have e20 : vals 20 = _ := hf 20 (by decide)
    have e21 : vals 21 = _ := hf 21 (by decide)
    have e22 : vals 22 = _ := hf 22 (by decide)
    have e23 : vals 23 = _ := hf 23 (by decide)
    have e24 : vals 24 = _ := hf 24 (by decide)
    have e25 : vals 25 = _ := hf 25 (by decide)
    have e26 : vals 26 = _ := hf 26 (by decide)
    have e27 : vals 27 = _ := hf 27 (by decide)
    have e28 : vals 28 = _ := hf 28 (by decide)
    have e29 : vals 29 = _ := hf 29 (by decide)
    have e30 : vals 30 = _ := hf 30 (by decide)
    have e31 : vals 31 = _ := hf 31 (by decide)
    have e32 : vals 32 = _ := hf 32 (by decide)
    have e33 : vals 33 = _ := hf 33 (by decide)
    have e34 : vals 34 = _ := hf 34 (by decide)
    have e35 : vals 35 = _ := hf 35 (by decide)
    have e36 : vals 36 = _ := hf 36 (by decide)
    have e37 : vals 37 = _ := hf 37 (by decide)
    have e38 : vals 38 = _ := hf 38 (by decide)
    have e39 : vals 39 = _ := hf 39 (by decide)
    have e40 : vals 40 = _ := hf 40 (by decide)
    have e41 : vals 41 = _ := hf 41 (by decide)
    have e42 : vals 42 = _ := hf 42 (by decide)
    have e43 : vals 43 = _ := hf 43 (by decide)
    have e44 : vals 44 = _ := hf 44 (by decide)
    have e45 : vals 45 = _ := hf 45 (by decide)
    have e46 : vals 46 = _ := hf 46 (by decide)
    have e47 : vals 47 = _ := hf 47 (by decide)
    have e48 : vals 48 = _ := hf 48 (by decide)
    have e49 : vals 49 = _ := hf 49 (by decide)
    have e50 : vals 50 = _ := hf 50 (by decide)
    have e51 : vals 51 = _ := hf 51 (by decide)
    have e52 : vals 52 = _ := hf 52 (by decide)
    have e53 : vals 53 = _ := hf 53 (by decide)
    have e54 : vals 54 = _ := hf 54 (by decide)
    have e55 : vals 55 = _ := hf 55 (by decide)
    have e56 : vals 56 = _ := hf 56 (by decide)
    have e57 : vals 57 = _ := hf 57 (by decide)
    have e58 : vals 58 = _ := hf 58 (by decide)
    have e59 : vals 59 = _ := hf 59 (by decide)
    show Exit.then _ _ _ (fillG vals 0 (_ :: _ :: _ :: _ :: _ :: _ :: _ :: _ :: _ :: _ :: _ :: _ :: _ :: _ :: _ :: _ :: _ :: _ :: _ :: _ :: _ :: _ :: _ :: _ :: _ :: _ :: _ :: _ :: _ :: _ :: _ :: _ :: _ :: _ :: _ :: _ :: _ :: _ :: _ :: _ :: _ :: _ :: _ :: _ :: _ :: _ :: _ :: _ :: _ :: _ :: _ :: _ :: _ :: _ :: _ :: _ :: _ :: _ :: _ :: _ :: []) _) _
    simp only [fillG, Nat.zero_add, Nat.reduceAdd, e0, e1, e2, e3, e4, e5, e6, e7, e8, e9, e10, e11, e12, e13, e14, e15, e16, e17, e18, e19, e20, e21, e22, e23, e24, e25, e26, e27, e28, e29, e30, e31, e32, e33, e34, e35, e36, e37, e38, e39, e40, e41, e42, e43, e44, e45, e46, e47, e48, e49, e50, e51, e52, e53, e54, e55, e56, e57, e58, e59, Act.put, List.setIfInBounds_toArray, List.set_cons_succ, List.set_cons_zero]
    clear e0 e1 e2 e3 e4 e5 e6 e7 e8 e9 e10 e11 e12 e13 e14 e15 e16 e17 e18 e19 e20 e21 e22 e23 e24 e25 e26 e27 e28 e29 e30 e31 e32 e33 e34 e35 e36 e37 e38 e39 e40 e41 e42 e43 e44 e45 e46 e47 e48 e49 e50 e51 e52 e53 e54 e55 e56 e57 e58 e59 hf
    have hg := GN.trans (unhide HG) hJ
    clear hJ H1 H2 Hx Hy h0 h1 h2 h3
    have Hg := hide hg
    clear hg
    go_wp2
    go_ret
    exact ⟨rfl, unhide Hg⟩
set_option maxRecDepth 100000 in
set_option maxHeartbeats 4000000 in
theorem same_d4 {x y : It} (hx : II x) (hy : II y) (h0 : Hid (x.pc = y.pc)) (h1 : Hid (x.bits = y.bits)) (h2 : Hid (x.inst = y.inst)) (h3 : Hid (x.size = y.size)) (h4 : Hid (x.cause ≠ y.cause)) (w : World) :
    Calls Tryd.prog 24 #[.agg (itl x).toArray, .agg (itl y).toArray] w fun r w' => r = .returned (.bool false) ∧ GN w w' := by
  have J := ((Heap.nil w).new (itl x).toArray 38).new (itl y).toArray 61
  obtain ⟨k1, hk1⟩ : ∃ k, w.heap.size = k := ⟨_, rfl⟩
  simp only [World.size_alloc, hk1] at J
  have H := hide J
  have Hx := hide hx
  have Hy := hide hy
  clear J hx hy
  go_enter Tryd.func24, Tryd.ntmps24
  go_upto_region 1 with fail
  have J := unhide H
  obtain ⟨k2, hk2⟩ : ∃ k, k1 + 1 = k := ⟨_, rfl⟩
  rw [hk2] at J ⊢
  generalize (w.alloc (.cells (itl x).toArray 38)).alloc (.cells (itl y).toArray 61) = w2 at J ⊢
  have H1 := hide (Heap.heap J.f2)
  have H2 := hide (Heap.heap J)
  have HG := hide (gn_of_below J.below)
  clear H J hk1 hk2
  refine wp_list_O (fun w_ => GN w2 w_) GN (fun k_ v_ w_ => match k_ with
      | 0 => v_ = .pointer (some ⟨k1, 0 + 0, none⟩)
      | 1 => v_ = .int .u64 x.pc
      | 2 => v_ = .pointer (some ⟨k2, 0 + 0, none⟩)
      | 3 => v_ = .int .u64 y.pc
      | 4 => v_ = .bool true
      | 5 => v_ = .bool true
      | 6 => v_ = .pointer (some ⟨k1, 0 + 1, none⟩)
      | 7 => v_ = .int .u32 x.bits
      | 8 => v_ = .pointer (some ⟨k2, 0 + 1, none⟩)
      | 9 => v_ = .int .u32 y.bits
      | 10 => v_ = .bool true
      | 11 => v_ = .bool true
      | 12 => v_ = .bool true
      | 13 => v_ = .pointer (some ⟨k1, 0 + 2, none⟩)
      | 14 => v_ = .int .u32 x.inst
      | 15 => v_ = .pointer (some ⟨k2, 0 + 2, none⟩)
      | 16 => v_ = .int .u32 y.inst
      | 17 => v_ = .bool true
      | 18 => v_ = .bool true
      | 19 => v_ = .bool true
      | 20 => v_ = .pointer (some ⟨k1, 0 + 3, none⟩)
      | 21 => v_ = .int .i64 x.size
      | 22 => v_ = .pointer (some ⟨k2, 0 + 3, none⟩)
      | 23 => v_ = .int .i64 y.size
      | 24 => v_ = .bool true
      | 25 => v_ = .bool true
      | 26 => v_ = .bool true
      | 27 => v_ = .pointer (some ⟨k1, 0 + 4, none⟩)
      | 28 => v_ = .int .u64 x.cause
      | 29 => v_ = .pointer (some ⟨k2, 0 + 4, none⟩)
      | 30 => v_ = .int .u64 y.cause
      | 31 => v_ = .bool false
      | 32 => v_ = .bool false
      | 33 => v_ = .bool false
      | 34 => v_ = undef
      | 35 => v_ = undef
      | 36 => v_ = undef
      | 37 => v_ = undef
      | 38 => v_ = undef
      | 39 => v_ = .bool false
      | 40 => v_ = .bool false
      | 41 => v_ = undef
      | 42 => v_ = undef
      | 43 => v_ = undef
      | 44 => v_ = undef
      | 45 => v_ = undef
      | 46 => v_ = .bool false
      | 47 => v_ = .bool false
      | 48 => v_ = undef
      | 49 => v_ = undef
      | 50 => v_ = undef
      | 51 => v_ = undef
      | 52 => v_ = undef
      | 53 => v_ = undef
      | 54 => v_ = undef
      | 55 => v_ = undef
      | 56 => v_ = undef
      | 57 => v_ = undef
      | 58 => v_ = .bool false
      | _ => v_ = .bool false) ?_ ?_ GN.refl ?_ ?_
  · exact GN.refl w2
  · intro k_ v_ w_ w2_ h1 hg
    split at h1 <;> exact h1
  · intro vals
    show wpO _ _ _ _ _ _ 0 (_ :: _) _
    refine wpO_cons (oval (.pointer (some ⟨k1, 0 + 0, none⟩)) GN.refl fun w_ hJ hd => ?_) ?_
    · exact ⟨by kernel_rfl, by kernel_rfl, rfl⟩
    refine wpO_cons (oop (Instr.loadAt 22 (.pointer (some ⟨k1, 0 + 0, none⟩))) (.int .u64 x.pc) GN.refl fun w_ hJ hd => ?_) ?_
    · have e0 : vals 0 = _ := hd 0 (by decide)
      rw [e0]
      exact ⟨by kernel_rfl, by kernel_rfl, run_load1 (by kernel_rfl) (cell_blk (hJ.heap (unhide H1)) 0).1, rfl⟩
    refine wpO_cons (oval (.pointer (some ⟨k2, 0 + 0, none⟩)) GN.refl fun w_ hJ hd => ?_) ?_
    · exact ⟨by kernel_rfl, by kernel_rfl, rfl⟩
    refine wpO_cons (oop (Instr.loadAt 22 (.pointer (some ⟨k2, 0 + 0, none⟩))) (.int .u64 y.pc) GN.refl fun w_ hJ hd => ?_) ?_
    · have e2 : vals 2 = _ := hd 2 (by decide)
      rw [e2]
      exact ⟨by kernel_rfl, by kernel_rfl, run_load1 (by kernel_rfl) (cell_blk (hJ.heap (unhide H2)) 0).1, rfl⟩
    refine wpO_cons (oop (binOp .eql 22 (.int .u64 x.pc) (.int .u64 y.pc)) (.bool true) GN.refl fun w_ hJ hd => ?_) ?_
    · have e1 : vals 1 = _ := hd 1 (by decide)
      have e3 : vals 3 = _ := hd 3 (by decide)
      rw [e1, e3]
      exact ⟨by kernel_rfl, by kernel_rfl, run_eq22t (unhide h0) w_, rfl⟩
    refine wpO_cons (oval (.bool true) GN.refl fun w_ hJ hd => ?_) ?_
    · have e4 : vals 4 = _ := hd 4 (by decide)
      rw [e4]
      exact ⟨by kernel_rfl, by kernel_rfl, rfl⟩
    refine wpO_cons (oval (.pointer (some ⟨k1, 0 + 1, none⟩)) GN.refl fun w_ hJ hd => ?_) ?_
    · have e5 : vals 5 = _ := hd 5 (by decide)
      rw [e5]
      exact ⟨by kernel_rfl, by kernel_rfl, rfl⟩
    refine wpO_cons (oop (Instr.loadAt 33 (.pointer (some ⟨k1, 0 + 1, none⟩))) (.int .u32 x.bits) GN.refl fun w_ hJ hd => ?_) ?_
    · have e6 : vals 6 = _ := hd 6 (by decide)
      have e5 : vals 5 = _ := hd 5 (by decide)
      rw [e6, e5]
      exact ⟨by kernel_rfl, by kernel_rfl, run_load1 (by kernel_rfl) (cell_blk (hJ.heap (unhide H1)) 1).1, rfl⟩
    refine wpO_cons (oval (.pointer (some ⟨k2, 0 + 1, none⟩)) GN.refl fun w_ hJ hd => ?_) ?_
    · have e5 : vals 5 = _ := hd 5 (by decide)
      rw [e5]
      exact ⟨by kernel_rfl, by kernel_rfl, rfl⟩
    refine wpO_cons (oop (Instr.loadAt 33 (.pointer (some ⟨k2, 0 + 1, none⟩))) (.int .u32 y.bits) GN.refl fun w_ hJ hd => ?_) ?_
    · have e8 : vals 8 = _ := hd 8 (by decide)
      have e5 : vals 5 = _ := hd 5 (by decide)
      rw [e8, e5]
      exact ⟨by kernel_rfl, by kernel_rfl, run_load1 (by kernel_rfl) (cell_blk (hJ.heap (unhide H2)) 1).1, rfl⟩
    refine wpO_cons (oop (binOp .eql 33 (.int .u32 x.bits) (.int .u32 y.bits)) (.bool true) GN.refl fun w_ hJ hd => ?_) ?_
    · have e7 : vals 7 = _ := hd 7 (by decide)
      have e9 : vals 9 = _ := hd 9 (by decide)
      have e5 : vals 5 = _ := hd 5 (by decide)
      rw [e7, e9, e5]
      exact ⟨by kernel_rfl, by kernel_rfl, run_eq33t (unhide h1) w_, rfl⟩
    refine wpO_cons (oval (.bool true) GN.refl fun w_ hJ hd => ?_) ?_
    · have e5 : vals 5 = _ := hd 5 (by decide)
      have e10 : vals 10 = _ := hd 10 (by decide)
      rw [e5, e10]
      exact ⟨by kernel_rfl, by kernel_rfl, rfl⟩
    refine wpO_cons (oval (.bool true) GN.refl fun w_ hJ hd => ?_) ?_
    · have e11 : vals 11 = _ := hd 11 (by decide)
      rw [e11]
      exact ⟨by kernel_rfl, by kernel_rfl, rfl⟩
    refine wpO_cons (oval (.pointer (some ⟨k1, 0 + 2, none⟩)) GN.refl fun w_ hJ hd => ?_) ?_
    · have e12 : vals 12 = _ := hd 12 (by decide)
      rw [e12]
      exact ⟨by kernel_rfl, by kernel_rfl, rfl⟩
    refine wpO_cons (oop (Instr.loadAt 33 (.pointer (some ⟨k1, 0 + 2, none⟩))) (.int .u32 x.inst) GN.refl fun w_ hJ hd => ?_) ?_
    · have e13 : vals 13 = _ := hd 13 (by decide)
      have e12 : vals 12 = _ := hd 12 (by decide)
      rw [e13, e12]
      exact ⟨by kernel_rfl, by kernel_rfl, run_load1 (by kernel_rfl) (cell_blk (hJ.heap (unhide H1)) 2).1, rfl⟩
    refine wpO_cons (oval (.pointer (some ⟨k2, 0 + 2, none⟩)) GN.refl fun w_ hJ hd => ?_) ?_
    · have e12 : vals 12 = _ := hd 12 (by decide)
      rw [e12]
      exact ⟨by kernel_rfl, by kernel_rfl, rfl⟩
    refine wpO_cons (oop (Instr.loadAt 33 (.pointer (some ⟨k2, 0 + 2, none⟩))) (.int .u32 y.inst) GN.refl fun w_ hJ hd => ?_) ?_
    · have e15 : vals 15 = _ := hd 15 (by decide)
      have e12 : vals 12 = _ := hd 12 (by decide)
      rw [e15, e12]
      exact ⟨by kernel_rfl, by kernel_rfl, run_load1 (by kernel_rfl) (cell_blk (hJ.heap (unhide H2)) 2).1, rfl⟩
    refine wpO_cons (oop (binOp .eql 33 (.int .u32 x.inst) (.int .u32 y.inst)) (.bool true) GN.refl fun w_ hJ hd => ?_) ?_
    · have e14 : vals 14 = _ := hd 14 (by decide)
      have e16 : vals 16 = _ := hd 16 (by decide)
      have e12 : vals 12 = _ := hd 12 (by decide)
      rw [e14, e16, e12]
      exact ⟨by kernel_rfl, by kernel_rfl, run_eq33t (unhide h2) w_, rfl⟩
    refine wpO_cons (oval (.bool true) GN.refl fun w_ hJ hd => ?_) ?_
    · have e12 : vals 12 = _ := hd 12 (by decide)
      have e17 : vals 17 = _ := hd 17 (by decide)
      rw [e12, e17]
      exact ⟨by kernel_rfl, by kernel_rfl, rfl⟩
    refine wpO_cons (oval (.bool true) GN.refl fun w_ hJ hd => ?_) ?_
    · have e18 : vals 18 = _ := hd 18 (by decide)
      rw [e18]
      exact ⟨by kernel_rfl, by kernel_rfl, rfl⟩
    refine wpO_cons (oval (.pointer (some ⟨k1, 0 + 3, none⟩)) GN.refl fun w_ hJ hd => ?_) ?_
    · have e19 : vals 19 = _ := hd 19 (by decide)
      rw [e19]
      exact ⟨by kernel_rfl, by kernel_rfl, rfl⟩
    refine wpO_cons (oop (Instr.loadAt 3 (.pointer (some ⟨k1, 0 + 3, none⟩))) (.int .i64 x.size) GN.refl fun w_ hJ hd => ?_) ?_
    · have e20 : vals 20 = _ := hd 20 (by decide)
      have e19 : vals 19 = _ := hd 19 (by decide)
      rw [e20, e19]
      exact ⟨by kernel_rfl, by kernel_rfl, run_load1 (by kernel_rfl) (cell_blk (hJ.heap (unhide H1)) 3).1, rfl⟩
    refine wpO_cons (oval (.pointer (some ⟨k2, 0 + 3, none⟩)) GN.refl fun w_ hJ hd => ?_) ?_
    · have e19 : vals 19 = _ := hd 19 (by decide)
      rw [e19]
      exact ⟨by kernel_rfl, by kernel_rfl, rfl⟩
    refine wpO_cons (oop (Instr.loadAt 3 (.pointer (some ⟨k2, 0 + 3, none⟩))) (.int .i64 y.size) GN.refl fun w_ hJ hd => ?_) ?_
    · have e22 : vals 22 = _ := hd 22 (by decide)
      have e19 : vals 19 = _ := hd 19 (by decide)
      rw [e22, e19]
      exact ⟨by kernel_rfl, by kernel_rfl, run_load1 (by kernel_rfl) (cell_blk (hJ.heap (unhide H2)) 3).1, rfl⟩
    refine wpO_cons (oop (binOp .eql 3 (.int .i64 x.size) (.int .i64 y.size)) (.bool true) GN.refl fun w_ hJ hd => ?_) ?_
    · have e21 : vals 21 = _ := hd 21 (by decide)
      have e23 : vals 23 = _ := hd 23 (by decide)
      have e19 : vals 19 = _ := hd 19 (by decide)
      rw [e21, e23, e19]
      exact ⟨by kernel_rfl, by kernel_rfl, run_eq3t (unhide h3) w_, rfl⟩
    refine wpO_cons (oval (.bool true) GN.refl fun w_ hJ hd => ?_) ?_
    · have e19 : vals 19 = _ := hd 19 (by decide)
      have e24 : vals 24 = _ := hd 24 (by decide)
      rw [e19, e24]
      exact ⟨by kernel_rfl, by kernel_rfl, rfl⟩
    refine wpO_cons (oval (.bool true) GN.refl fun w_ hJ hd => ?_) ?_
    · have e25 : vals 25 = _ := hd 25 (by decide)
      rw [e25]
      exact ⟨by kernel_rfl, by kernel_rfl, rfl⟩
    refine wpO_cons (oval (.pointer (some ⟨k1, 0 + 4, none⟩)) GN.refl fun w_ hJ hd => ?_) ?_
    · have e26 : vals 26 = _ := hd 26 (by decide)
      rw [e26]
      exact ⟨by kernel_rfl, by kernel_rfl, rfl⟩
    refine wpO_cons (oop (Instr.loadAt 22 (.pointer (some ⟨k1, 0 + 4, none⟩))) (.int .u64 x.cause) GN.refl fun w_ hJ hd => ?_) ?_
    · have e27 : vals 27 = _ := hd 27 (by decide)
      have e26 : vals 26 = _ := hd 26 (by decide)
      rw [e27, e26]
      exact ⟨by kernel_rfl, by kernel_rfl, run_load1 (by kernel_rfl) (cell_blk (hJ.heap (unhide H1)) 4).1, rfl⟩
    refine wpO_cons (oval (.pointer (some ⟨k2, 0 + 4, none⟩)) GN.refl fun w_ hJ hd => ?_) ?_
    · have e26 : vals 26 = _ := hd 26 (by decide)
      rw [e26]
      exact ⟨by kernel_rfl, by kernel_rfl, rfl⟩
    refine wpO_cons (oop (Instr.loadAt 22 (.pointer (some ⟨k2, 0 + 4, none⟩))) (.int .u64 y.cause) GN.refl fun w_ hJ hd => ?_) ?_
    · have e29 : vals 29 = _ := hd 29 (by decide)
      have e26 : vals 26 = _ := hd 26 (by decide)
      rw [e29, e26]
      exact ⟨by kernel_rfl, by kernel_rfl, run_load1 (by kernel_rfl) (cell_blk (hJ.heap (unhide H2)) 4).1, rfl⟩
    refine wpO_cons (oop (binOp .eql 22 (.int .u64 x.cause) (.int .u64 y.cause)) (.bool false) GN.refl fun w_ hJ hd => ?_) ?_
    · have e28 : vals 28 = _ := hd 28 (by decide)
      have e30 : vals 30 = _ := hd 30 (by decide)
      have e26 : vals 26 = _ := hd 26 (by decide)
      rw [e28, e30, e26]
      exact ⟨by kernel_rfl, by kernel_rfl, run_eq22f (unhide h4) w_, rfl⟩
    refine wpO_cons (oval (.bool false) GN.refl fun w_ hJ hd => ?_) ?_
    · have e26 : vals 26 = _ := hd 26 (by decide)
      have e31 : vals 31 = _ := hd 31 (by decide)
      rw [e26, e31]
      exact ⟨by kernel_rfl, by kernel_rfl, rfl⟩
    refine wpO_cons (oval (.bool false) GN.refl fun w_ hJ hd => ?_) ?_
    · have e32 : vals 32 = _ := hd 32 (by decide)
      rw [e32]
      exact ⟨by kernel_rfl, by kernel_rfl, rfl⟩
    refine wpO_cons (oskip fun w_ hJ hd => ?_) ?_
    · have e33 : vals 33 = _ := hd 33 (by decide)
      rw [e33]
      exact ⟨by kernel_rfl, rfl⟩
    refine wpO_cons (oskip fun w_ hJ hd => ?_) ?_
    · have e33 : vals 33 = _ := hd 33 (by decide)
      rw [e33]
      exact ⟨by kernel_rfl, rfl⟩
    refine wpO_cons (oskip fun w_ hJ hd => ?_) ?_
    · have e33 : vals 33 = _ := hd 33 (by decide)
      rw [e33]
      exact ⟨by kernel_rfl, rfl⟩
    refine wpO_cons (oskip fun w_ hJ hd => ?_) ?_
    · have e33 : vals 33 = _ := hd 33 (by decide)
      rw [e33]
      exact ⟨by kernel_rfl, rfl⟩
    refine wpO_cons (oskip fun w_ hJ hd => ?_) ?_
    · have e33 : vals 33 = _ := hd 33 (by decide)
      rw [e33]
      exact ⟨by kernel_rfl, rfl⟩
    refine wpO_cons (oval (.bool false) GN.refl fun w_ hJ hd => ?_) ?_
    · have e33 : vals 33 = _ := hd 33 (by decide)
      have e38 : vals 38 = _ := hd 38 (by decide)
      rw [e33, e38]
      exact ⟨by kernel_rfl, by kernel_rfl, rfl⟩
    refine wpO_cons (oval (.bool false) GN.refl fun w_ hJ hd => ?_) ?_
    · have e39 : vals 39 = _ := hd 39 (by decide)
      rw [e39]
      exact ⟨by kernel_rfl, by kernel_rfl, rfl⟩
    refine wpO_cons (oskip fun w_ hJ hd => ?_) ?_
    · have e40 : vals 40 = _ := hd 40 (by decide)
      rw [e40]
      exact ⟨by kernel_rfl, rfl⟩
    refine wpO_cons (oskip fun w_ hJ hd => ?_) ?_
    · have e40 : vals 40 = _ := hd 40 (by decide)
      rw [e40]
      exact ⟨by kernel_rfl, rfl⟩
    refine wpO_cons (oskip fun w_ hJ hd => ?_) ?_
    · have e40 : vals 40 = _ := hd 40 (by decide)
      rw [e40]
      exact ⟨by kernel_rfl, rfl⟩
    refine wpO_cons (oskip fun w_ hJ hd => ?_) ?_
    · have e40 : vals 40 = _ := hd 40 (by decide)
      rw [e40]
      exact ⟨by kernel_rfl, rfl⟩
    refine wpO_cons (oskip fun w_ hJ hd => ?_) ?_
    · have e40 : vals 40 = _ := hd 40 (by decide)
      rw [e40]
      exact ⟨by kernel_rfl, rfl⟩
    refine wpO_cons (oval (.bool false) GN.refl fun w_ hJ hd => ?_) ?_
    · have e40 : vals 40 = _ := hd 40 (by decide)
      have e45 : vals 45 = _ := hd 45 (by decide)
      rw [e40, e45]
      exact ⟨by kernel_rfl, by kernel_rfl, rfl⟩
    refine wpO_cons (oval (.bool false) GN.refl fun w_ hJ hd => ?_) ?_
    · have e46 : vals 46 = _ := hd 46 (by decide)
      rw [e46]
      exact ⟨by kernel_rfl, by kernel_rfl, rfl⟩
    refine wpO_cons (oskip fun w_ hJ hd => ?_) ?_
    · have e47 : vals 47 = _ := hd 47 (by decide)
      rw [e47]
      exact ⟨by kernel_rfl, rfl⟩
    refine wpO_cons (oskip fun w_ hJ hd => ?_) ?_
    · have e47 : vals 47 = _ := hd 47 (by decide)
      rw [e47]
      exact ⟨by kernel_rfl, rfl⟩
    refine wpO_cons (oskip fun w_ hJ hd => ?_) ?_
    · have e47 : vals 47 = _ := hd 47 (by decide)
      rw [e47]
      exact ⟨by kernel_rfl, rfl⟩
    refine wpO_cons (oskip fun w_ hJ hd => ?_) ?_
    · have e47 : vals 47 = _ := hd 47 (by decide)
      rw [e47]
      exact ⟨by kernel_rfl, rfl⟩
    refine wpO_cons (oskip fun w_ hJ hd => ?_) ?_
    · have e47 : vals 47 = _ := hd 47 (by decide)
      rw [e47]
      exact ⟨by kernel_rfl, rfl⟩
    refine wpO_cons (oskip fun w_ hJ hd => ?_) ?_
    · have e47 : vals 47 = _ := hd 47 (by decide)
      rw [e47]
      exact ⟨by kernel_rfl, rfl⟩
    refine wpO_cons (oskip fun w_ hJ hd => ?_) ?_
    · have e47 : vals 47 = _ := hd 47 (by decide)
      rw [e47]
      exact ⟨by kernel_rfl, rfl⟩
    refine wpO_cons (oskip fun w_ hJ hd => ?_) ?_
    · have e47 : vals 47 = _ := hd 47 (by decide)
      rw [e47]
      exact ⟨by kernel_rfl, rfl⟩
    refine wpO_cons (oskip fun w_ hJ hd => ?_) ?_
    · have e47 : vals 47 = _ := hd 47 (by decide)
      rw [e47]
      exact ⟨by kernel_rfl, rfl⟩
    refine wpO_cons (oskip fun w_ hJ hd => ?_) ?_
    · have e47 : vals 47 = _ := hd 47 (by decide)
      rw [e47]
      exact ⟨by kernel_rfl, rfl⟩
    refine wpO_cons (oval (.bool false) GN.refl fun w_ hJ hd => ?_) ?_
    · have e47 : vals 47 = _ := hd 47 (by decide)
      have e57 : vals 57 = _ := hd 57 (by decide)
      rw [e47, e57]
      exact ⟨by kernel_rfl, by kernel_rfl, rfl⟩
    refine wpO_cons (oval (.bool false) GN.refl fun w_ hJ hd => ?_) wpO_nil
    · have e58 : vals 58 = _ := hd 58 (by decide)
      rw [e58]
      exact ⟨by kernel_rfl, by kernel_rfl, rfl⟩
  · intro vals w_ hJ hf
    have e0 : vals 0 = _ := hf 0 (by decide)
    have e1 : vals 1 = _ := hf 1 (by decide)
    have e2 : vals 2 = _ := hf 2 (by decide)
    have e3 : vals 3 = _ := hf 3 (by decide)
    have e4 : vals 4 = _ := hf 4 (by decide)
    have e5 : vals 5 = _ := hf 5 (by decide)
    have e6 : vals 6 = _ := hf 6 (by decide)
    have e7 : vals 7 = _ := hf 7 (by decide)
    have e8 : vals 8 = _ := hf 8 (by decide)
    have e9 : vals 9 = _ := hf 9 (by decide)
    have e10 : vals 10 = _ := hf 10 (by decide)
    have e11 : vals 11 = _ := hf 11 (by decide)
    have e12 : vals 12 = _ := hf 12 (by decide)
    have e13 : vals 13 = _ := hf 13 (by decide)
    have e14 : vals 14 = _ := hf 14 (by decide)
    have e15 : vals 15 = _ := hf 15 (by decide)
    have e16 : vals 16 = _ := hf 16 (by decide)
    have e17 : vals 17 = _ := hf 17 (by decide)
    have e18 : vals 18 = _ := hf 18 (by decide)
    have e19 : vals 19 = _ := hf 19 (by decide)
    have e20 : vals 20 = _ := hf 20 (by decide)
    have e21 : vals 21 = _ := hf 21 (by decide)
    have e22 : vals 22 = _ := hf 22 (by decide)
    have e23 : vals 23 = _ := hf 23 (by decide)
    have e24 : vals 24 = _ := hf 24 (by decide)
    have e25 : vals 25 = _ := hf 25 (by decide)
    have e26 : vals 26 = _ := hf 26 (by decide)
    have e27 : vals 27 = _ := hf 27 (by decide)
    have e28 : vals 28 = _ := hf 28 (by decide)
    have e29 : vals 29 = _ := hf 29 (by decide)
    have e30 : vals 30 = _ := hf 30 (by decide)
    have e31 : vals 31 = _ := hf 31 (by decide)
    have e32 : vals 32 = _ := hf 32 (by decide)
    have e33 : vals 33 = _ := hf 33 (by decide)
    have e34 : vals 34 = _ := hf 34 (by decide)
    have e35 : vals 35 = _ := hf 35 (by decide)
    have e36 : vals 36 = _ := hf 36 (by decide)
    have e37 : vals 37 = _ := hf 37 (by decide)
    have e38 : vals 38 = _ := hf 38 (by decide)
    have e39 : vals 39 = _ := hf 39 (by decide)
    have e40 : vals 40 = _ := hf 40 (by decide)
    have e41 : vals 41 = _ := hf 41 (by decide)
    have e42 : vals 42 = _ := hf 42 (by decide)
    have e43 : vals 43 = _ := hf 43 (by decide)
    have e44 : vals 44 = _ := hf 44 (by decide)
    have e45 : vals 45 = _ := hf 45 (by decide)
    have e46 : vals 46 = _ := hf 46 (by decide)
    have e47 : vals 47 = _ := hf 47 (by decide)
    have e48 : vals 48 = _ := hf 48 (by decide)
    have e49 : vals 49 = _ := hf 49 (by decide)
    have e50 : vals 50 = _ := hf 50 (by decide)
    have e51 : vals 51 = _ := hf 51 (by decide)
    have e52 : vals 52 = _ := hf 52 (by decide)
    have e53 : vals 53 = _ := hf 53 (by decide)
    have e54 : vals 54 = _ := hf 54 (by decide)
    have e55 : vals 55 = _ := hf 55 (by decide)
    have e56 : vals 56 = _ := hf 56 (by decide)
    have e57 : vals 57 = _ := hf 57 (by decide)
    have e58 : vals 58 = _ := hf 58 (by decide)
    have e59 : vals 59 = _ := hf 59 (by decide)
    show Exit.then _ _ _ (fillG vals 0 (_ :: _ :: _ :: _ :: _ :: _ :: _ :: _ :: _ :: _ :: _ :: _ :: _ :: _ :: _ :: _ :: _ :: _ :: _ :: _ :: _ :: _ :: _ :: _ :: _ :: _ :: _ :: _ :: _ :: _ :: _ :: _ :: _ :: _ :: _ :: _ :: _ :: _ :: _ :: _ :: _ :: _ :: _ :: _ :: _ :: _ :: _ :: _ :: _ :: _ :: _ :: _ :: _ :: _ :: _ :: _ :: _ :: _ :: _ :: _ :: []) _) _
    simp only [fillG, Nat.zero_add, Nat.reduceAdd, e0, e1, e2, e3, e4, e5, e6, e7, e8, e9, e10, e11, e12, e13, e14, e15, e16, e17, e18, e19, e20, e21, e22, e23, e24, e25, e26, e27, e28, e29, e30, e31, e32, e33, e34, e35, e36, e37, e38, e39, e40, e41, e42, e43, e44, e45, e46, e47, e48, e49, e50, e51, e52, e53, e54, e55, e56, e57, e58, e59, Act.put, List.setIfInBounds_toArray, List.set_cons_succ, List.set_cons_zero]
    clear e0 e1 e2 e3 e4 e5 e6 e7 e8 e9 e10 e11 e12 e13 e14 e15 e16 e17 e18 e19 e20 e21 e22 e23 e24 e25 e26 e27 e28 e29 e30 e31 e32 e33 e34 e35 e36 e37 e38 e39 e40 e41 e42 e43 e44 e45 e46 e47 e48 e49 e50 e51 e52 e53 e54 e55 e56 e57 e58 e59 hf
    have hg := GN.trans (unhide HG) hJ
    clear hJ H1 H2 Hx Hy h0 h1 h2 h3 h4
    have Hg := hide hg
    clear hg
    go_wp2
    go_ret
    exact ⟨rfl, unhide Hg⟩
set_option maxRecDepth 100000 in
set_option maxHeartbeats 4000000 in
theorem same_d5 {x y : It} (hx : II x) (hy : II y) (h0 : Hid (x.pc = y.pc)) (h1 : Hid (x.bits = y.bits)) (h2 : Hid (x.inst = y.inst)) (h3 : Hid (x.size = y.size)) (h4 : Hid (x.cause = y.cause)) (h5 : Hid (x.tval ≠ y.tval)) (w : World) :
    Calls Tryd.prog 24 #[.agg (itl x).toArray, .agg (itl y).toArray] w fun r w' => r = .returned (.bool false) ∧ GN w w' := by
  have J := ((Heap.nil w).new (itl x).toArray 38).new (itl y).toArray 61
  obtain ⟨k1, hk1⟩ : ∃ k, w.heap.size = k := ⟨_, rfl⟩
  simp only [World.size_alloc, hk1] at J
  have H := hide J
  have Hx := hide hx
  have Hy := hide hy
  clear J hx hy
  go_enter Tryd.func24, Tryd.ntmps24
  go_upto_region 1 with fail
  have J := unhide H
  obtain ⟨k2, hk2⟩ : ∃ k, k1 + 1 = k := ⟨_, rfl⟩
  rw [hk2] at J ⊢
  generalize (w.alloc (.cells (itl x).toArray 38)).alloc (.cells (itl y).toArray 61) = w2 at J ⊢
  have H1 := hide (Heap.heap J.f2)
  have H2 := hide (Heap.heap J)
  have HG := hide (gn_of_below J.below)
  clear H J hk1 hk2
  refine wp_list_O (fun w_ => GN w2 w_) GN (fun k_ v_ w_ => match k_ with
      | 0 => v_ = .pointer (some ⟨k1, 0 + 0, none⟩)
      | 1 => v_ = .int .u64 x.pc
      | 2 => v_ = .pointer (some ⟨k2, 0 + 0, none⟩)
      | 3 => v_ = .int .u64 y.pc
      | 4 => v_ = .bool true
      | 5 => v_ = .bool true
      | 6 => v_ = .pointer (some ⟨k1, 0 + 1, none⟩)
      | 7 => v_ = .int .u32 x.bits
      | 8 => v_ = .pointer (some ⟨k2, 0 + 1, none⟩)
      | 9 => v_ = .int .u32 y.bits
      | 10 => v_ = .bool true
      | 11 => v_ = .bool true
      | 12 => v_ = .bool true
      | 13 => v_ = .pointer (some ⟨k1, 0 + 2, none⟩)
      | 14 => v_ = .int .u32 x.inst
      | 15 => v_ = .pointer (some ⟨k2, 0 + 2, none⟩)
      | 16 => v_ = .int .u32 y.inst
      | 17 => v_ = .bool true
      | 18 => v_ = .bool true
      | 19 => v_ = .bool true
      | 20 => v_ = .pointer (some ⟨k1, 0 + 3, none⟩)
      | 21 => v_ = .int .i64 x.size
      | 22 => v_ = .pointer (some ⟨k2, 0 + 3, none⟩)
      | 23 => v_ = .int .i64 y.size
      | 24 => v_ = .bool true
      | 25 => v_ = .bool true
      | 26 => v_ = .bool true
      | 27 => v_ = .pointer (some ⟨k1, 0 + 4, none⟩)
      | 28 => v_ = .int .u64 x.cause
      | 29 => v_ = .pointer (some ⟨k2, 0 + 4, none⟩)
      | 30 => v_ = .int .u64 y.cause
      | 31 => v_ = .bool true
      | 32 => v_ = .bool true
      | 33 => v_ = .bool true
      | 34 => v_ = .pointer (some ⟨k1, 0 + 5, none⟩)
      | 35 => v_ = .int .u64 x.tval
      | 36 => v_ = .pointer (some ⟨k2, 0 + 5, none⟩)
      | 37 => v_ = .int .u64 y.tval
      | 38 => v_ = .bool false
      | 39 => v_ = .bool false
      | 40 => v_ = .bool false
      | 41 => v_ = undef
      | 42 => v_ = undef
      | 43 => v_ = undef
      | 44 => v_ = undef
      | 45 => v_ = undef
      | 46 => v_ = .bool false
      | 47 => v_ = .bool false
      | 48 => v_ = undef
      | 49 => v_ = undef
      | 50 => v_ = undef
      | 51 => v_ = undef
      | 52 => v_ = undef
      | 53 => v_ = undef
      | 54 => v_ = undef
      | 55 => v_ = undef
      | 56 => v_ = undef
      | 57 => v_ = undef
      | 58 => v_ = .bool false
      | _ => v_ = .bool false) ?_ ?_ GN.refl ?_ ?_
  · exact GN.refl w2
  · intro k_ v_ w_ w2_ h1 hg
    split at h1 <;> exact h1
  · intro vals
    show wpO _ _ _ _ _ _ 0 (_ :: _) _
    refine wpO_cons (oval (.pointer (some ⟨k1, 0 + 0, none⟩)) GN.refl fun w_ hJ hd => ?_) ?_
    · exact ⟨by kernel_rfl, by kernel_rfl, rfl⟩
    refine wpO_cons (oop (Instr.loadAt 22 (.pointer (some ⟨k1, 0 + 0, none⟩))) (.int .u64 x.pc) GN.refl fun w_ hJ hd => ?_) ?_
    · have e0 : vals 0 = _ := hd 0 (by decide)
      rw [e0]
      exact ⟨by kernel_rfl, by kernel_rfl, run_load1 (by kernel_rfl) (cell_blk (hJ.heap (unhide H1)) 0).1, rfl⟩
    refine wpO_cons (oval (.pointer (some ⟨k2, 0 + 0, none⟩)) GN.refl fun w_ hJ hd => ?_) ?_
    · exact ⟨by kernel_rfl, by kernel_rfl, rfl⟩
    refine wpO_cons (oop (Instr.loadAt 22 (.pointer (some ⟨k2, 0 + 0, none⟩))) (.int .u64 y.pc) GN.refl fun w_ hJ hd => ?_) ?_
    · have e2 : vals 2 = _ := hd 2 (by decide)
      rw [e2]
      exact ⟨by kernel_rfl, by kernel_rfl, run_load1 (by kernel_rfl) (cell_blk (hJ.heap (unhide H2)) 0).1, rfl⟩
    refine wpO_cons (oop (binOp .eql 22 (.int .u64 x.pc) (.int .u64 y.pc)) (.bool true) GN.refl fun w_ hJ hd => ?_) ?_
    · have e1 : vals 1 = _ := hd 1 (by decide)
      have e3 : vals 3 = _ := hd 3 (by decide)
      rw [e1, e3]
      exact ⟨by kernel_rfl, by kernel_rfl, run_eq22t (unhide h0) w_, rfl⟩
    refine wpO_cons (oval (.bool true) GN.refl fun w_ hJ hd => ?_) ?_
    · have e4 : vals 4 = _ := hd 4 (by decide)
      rw [e4]
      exact ⟨by kernel_rfl, by kernel_rfl, rfl⟩
    refine wpO_cons (oval (.pointer (some ⟨k1, 0 + 1, none⟩)) GN.refl fun w_ hJ hd => ?_) ?_
    · have e5 : vals 5 = _ := hd 5 (by decide)
      rw [e5]
      exact ⟨by kernel_rfl, by kernel_rfl, rfl⟩
    refine wpO_cons (oop (Instr.loadAt 33 (.pointer (some ⟨k1, 0 + 1, none⟩))) (.int .u32 x.bits) GN.refl fun w_ hJ hd => ?_) ?_
    · have e6 : vals 6 = _ := hd 6 (by decide)
      have e5 : vals 5 = _ := hd 5 (by decide)
      rw [e6, e5]
      exact ⟨by kernel_rfl, by kernel_rfl, run_load1 (by kernel_rfl) (cell_blk (hJ.heap (unhide H1)) 1).1, rfl⟩
    refine wpO_cons (oval (.pointer (some ⟨k2, 0 + 1, none⟩)) GN.refl fun w_ hJ hd => ?_) ?_
    · have e5 : vals 5 = _ := hd 5 (by decide)
      rw [e5]
      exact ⟨by kernel_rfl, by kernel_rfl, rfl⟩
    refine wpO_cons (oop (Instr.loadAt 33 (.pointer (some ⟨k2, 0 + 1, none⟩))) (.int .u32 y.bits) GN.refl fun w_ hJ hd => ?_) ?_
    · have e8 : vals 8 = _ := hd 8 (by decide)
      have e5 : vals 5 = _ := hd 5 (by decide)
      rw [e8, e5]
      exact ⟨by kernel_rfl, by kernel_rfl, run_load1 (by kernel_rfl) (cell_blk (hJ.heap (unhide H2)) 1).1, rfl⟩
    refine wpO_cons (oop (binOp .eql 33 (.int .u32 x.bits) (.int .u32 y.bits)) (.bool true) GN.refl fun w_ hJ hd => ?_) ?_
    · have e7 : vals 7 = _ := hd 7 (by decide)
      have e9 : vals 9 = _ := hd 9 (by decide)
      have e5 : vals 5 = _ := hd 5 (by decide)
      rw [e7, e9, e5]
      exact ⟨by kernel_rfl, by kernel_rfl, run_eq33t (unhide h1) w_, rfl⟩
    refine wpO_cons (oval (.bool true) GN.refl fun w_ hJ hd => ?_) ?_
    · have e5 : vals 5 = _ := hd 5 (by decide)
      have e10 : vals 10 = _ := hd 10 (by decide)
      rw [e5, e10]
      exact ⟨by kernel_rfl, by kernel_rfl, rfl⟩
    refine wpO_cons (oval (.bool true) GN.refl fun w_ hJ hd => ?_) ?_
    · have e11 : vals 11 = _ := hd 11 (by decide)
      rw [e11]
      exact ⟨by kernel_rfl, by kernel_rfl, rfl⟩
    refine wpO_cons (oval (.pointer (some ⟨k1, 0 + 2, none⟩)) GN.refl fun w_ hJ hd => ?_) ?_
    · have e12 : vals 12 = _ := hd 12 (by decide)
      rw [e12]
      exact ⟨by kernel_rfl, by kernel_rfl, rfl⟩
    refine wpO_cons (oop (Instr.loadAt 33 (.pointer (some ⟨k1, 0 + 2, none⟩))) (.int .u32 x.inst) GN.refl fun w_ hJ hd => ?_) ?_
    · have e13 : vals 13 = _ := hd 13 (by decide)
      have e12 : vals 12 = _ := hd 12 (by decide)
      rw [e13, e12]
      exact ⟨by kernel_rfl, by kernel_rfl, run_load1 (by kernel_rfl) (cell_blk (hJ.heap (unhide H1)) 2).1, rfl⟩
    refine wpO_cons (oval (.pointer (some ⟨k2, 0 + 2, none⟩)) GN.refl fun w_ hJ hd => ?_) ?_
    · have e12 : vals 12 = _ := hd 12 (by decide)
      rw [e12]
      exact ⟨by kernel_rfl, by kernel_rfl, rfl⟩
    refine wpO_cons (oop (Instr.loadAt 33 (.pointer (some ⟨k2, 0 + 2, none⟩))) (.int .u32 y.inst) GN.refl fun w_ hJ hd => ?_) ?_
    · have e15 : vals 15 = _ := hd 15 (by decide)
      have e12 : vals 12 = _ := hd 12 (by decide)
      rw [e15, e12]
      exact ⟨by kernel_rfl, by kernel_rfl, run_load1 (by kernel_rfl) (cell_blk (hJ.heap (unhide H2)) 2).1, rfl⟩
    refine wpO_cons (oop (binOp .eql 33 (.int .u32 x.inst) (.int .u32 y.inst)) (.bool true) GN.refl fun w_ hJ hd => ?_) ?_
    · have e14 : vals 14 = _ := hd 14 (by decide)
      have e16 : vals 16 = _ := hd 16 (by decide)
      have e12 : vals 12 = _ := hd 12 (by decide)
      rw [e14, e16, e12]
      exact ⟨by kernel_rfl, by kernel_rfl, run_eq33t (unhide h2) w_, rfl⟩
    refine wpO_cons (oval (.bool true) GN.refl fun w_ hJ hd => ?_) ?_
    · have e12 : vals 12 = _ := hd 12 (by decide)
      have e17 : vals 17 = _ := hd 17 (by decide)
      rw [e12, e17]
      exact ⟨by kernel_rfl, by kernel_rfl, rfl⟩
    refine wpO_cons (oval (.bool true) GN.refl fun w_ hJ hd => ?_) ?_
    · have e18 : vals 18 = _ := hd 18 (by decide)
      rw [e18]
      exact ⟨by kernel_rfl, by kernel_rfl, rfl⟩
    refine wpO_cons (oval (.pointer (some ⟨k1, 0 + 3, none⟩)) GN.refl fun w_ hJ hd => ?_) ?_
    · have e19 : vals 19 = _ := hd 19 (by decide)
      rw [e19]
      exact ⟨by kernel_rfl, by kernel_rfl, rfl⟩
    refine wpO_cons (oop (Instr.loadAt 3 (.pointer (some ⟨k1, 0 + 3, none⟩))) (.int .i64 x.size) GN.refl fun w_ hJ hd => ?_) ?_
    · have e20 : vals 20 = _ := hd 20 (by decide)
      have e19 : vals 19 = _ := hd 19 (by decide)
      rw [e20, e19]
      exact ⟨by kernel_rfl, by kernel_rfl, run_load1 (by kernel_rfl) (cell_blk (hJ.heap (unhide H1)) 3).1, rfl⟩
    refine wpO_cons (oval (.pointer (some ⟨k2, 0 + 3, none⟩)) GN.refl fun w_ hJ hd => ?_) ?_
    · have e19 : vals 19 = _ := hd 19 (by decide)
      rw [e19]
      exact ⟨by kernel_rfl, by kernel_rfl, rfl⟩
    refine wpO_cons (oop (Instr.loadAt 3 (.pointer (some ⟨k2, 0 + 3, none⟩))) (.int .i64 y.size) GN.refl fun w_ hJ hd => ?_) ?_
    · have e22 : vals 22 = _ := hd 22 (by decide)
      have e19 : vals 19 = _ := hd 19 (by decide)
      rw [e22, e19]
      exact ⟨by kernel_rfl, by kernel_rfl, run_load1 (by kernel_rfl) (cell_blk (hJ.heap (unhide H2)) 3).1, rfl⟩
    refine wpO_cons (oop (binOp .eql 3 (.int .i64 x.size) (.int .i64 y.size)) (.bool true) GN.refl fun w_ hJ hd => ?_) ?_
    · have e21 : vals 21 = _ := hd 21 (by decide)
      have e23 : vals 23 = _ := hd 23 (by decide)
      have e19 : vals 19 = _ := hd 19 (by decide)
      rw [e21, e23, e19]
      exact ⟨by kernel_rfl, by kernel_rfl, run_eq3t (unhide h3) w_, rfl⟩
    refine wpO_cons (oval (.bool true) GN.refl fun w_ hJ hd => ?_) ?_
    · have e19 : vals 19 = _ := hd 19 (by decide)
      have e24 : vals 24 = _ := hd 24 (by decide)
      rw [e19, e24]
      exact ⟨by kernel_rfl, by kernel_rfl, rfl⟩
    refine wpO_cons (oval (.bool true) GN.refl fun w_ hJ hd => ?_) ?_
    · have e25 : vals 25 = _ := hd 25 (by decide)
      rw [e25]
      exact ⟨by kernel_rfl, by kernel_rfl, rfl⟩
    refine wpO_cons (oval (.pointer (some ⟨k1, 0 + 4, none⟩)) GN.refl fun w_ hJ hd => ?_) ?_
    · have e26 : vals 26 = _ := hd 26 (by decide)
      rw [e26]
      exact ⟨by kernel_rfl, by kernel_rfl, rfl⟩
    refine wpO_cons (oop (Instr.loadAt 22 (.pointer (some ⟨k1, 0 + 4, none⟩))) (.int .u64 x.cause) GN.refl fun w_ hJ hd => ?_) ?_
    · have e27 : vals 27 = _ := hd 27 (by decide)
      have e26 : vals 26 = _ := hd 26 (by decide)
      rw [e27, e26]
      exact ⟨by kernel_rfl, by kernel_rfl, run_load1 (by kernel_rfl) (cell_blk (hJ.heap (unhide H1)) 4).1, rfl⟩
    refine wpO_cons (oval (.pointer (some ⟨k2, 0 + 4, none⟩)) GN.refl fun w_ hJ hd => ?_) ?_
    · have e26 : vals 26 = _ := hd 26 (by decide)
      rw [e26]
      exact ⟨by kernel_rfl, by kernel_rfl, rfl⟩
    refine wpO_cons (oop (Instr.loadAt 22 (.pointer (some ⟨k2, 0 + 4, none⟩))) (.int .u64 y.cause) GN.refl fun w_ hJ hd => ?_) ?_
    · have e29 : vals 29 = _ := hd 29 (by decide)
      have e26 : vals 26 = _ := hd 26 (by decide)
      rw [e29, e26]
      exact ⟨by kernel_rfl, by kernel_rfl, run_load1 (by kernel_rfl) (cell_blk (hJ.heap (unhide H2)) 4).1, rfl⟩
    refine wpO_cons (oop (binOp .eql 22 (.int .u64 x.cause) (.int .u64 y.cause)) (.bool true) GN.refl fun w_ hJ hd => ?_) ?_
    · have e28 : vals 28 = _ := hd 28 (by decide)
      have e30 : vals 30 = _ := hd 30 (by decide)
      have e26 : vals 26 = _ := hd 26 (by decide)
      rw [e28, e30, e26]
      exact ⟨by kernel_rfl, by kernel_rfl, run_eq22t (unhide h4) w_, rfl⟩
    refine wpO_cons (oval (.bool true) GN.refl fun w_ hJ hd => ?_) ?_
    · have e26 : vals 26 = _ := hd 26 (by decide)
      have e31 : vals 31 = _ := hd 31 (by decide)
      rw [e26, e31]
      exact ⟨by kernel_rfl, by kernel_rfl, rfl⟩
    refine wpO_cons (oval (.bool true) GN.refl fun w_ hJ hd => ?_) ?_
    · have e32 : vals 32 = _ := hd 32 (by decide)
      rw [e32]
      exact ⟨by kernel_rfl, by kernel_rfl, rfl⟩
    refine wpO_cons (oval (.pointer (some ⟨k1, 0 + 5, none⟩)) GN.refl fun w_ hJ hd => ?_) ?_
    · have e33 : vals 33 = _ := hd 33 (by decide)
      rw [e33]
      exact ⟨by kernel_rfl, by kernel_rfl, rfl⟩
    refine wpO_cons (oop (Instr.loadAt 22 (.pointer (some ⟨k1, 0 + 5, none⟩))) (.int .u64 x.tval) GN.refl fun w_ hJ hd => ?_) ?_
    · have e34 : vals 34 = _ := hd 34 (by decide)
      have e33 : vals 33 = _ := hd 33 (by decide)
      rw [e34, e33]
      exact ⟨by kernel_rfl, by kernel_rfl, run_load1 (by kernel_rfl) (cell_blk (hJ.heap (unhide H1)) 5).1, rfl⟩
    refine wpO_cons (oval (.pointer (some ⟨k2, 0 + 5, none⟩)) GN.refl fun w_ hJ hd => ?_) ?_
    · have e33 : vals 33 = _ := hd 33 (by decide)
      rw [e33]
      exact ⟨by kernel_rfl, by kernel_rfl, rfl⟩
    refine wpO_cons (oop (Instr.loadAt 22 (.pointer (some ⟨k2, 0 + 5, none⟩))) (.int .u64 y.tval) GN.refl fun w_ hJ hd => ?_) ?_
    · have e36 : vals 36 = _ := hd 36 (by decide)
      have e33 : vals 33 = _ := hd 33 (by decide)
      rw [e36, e33]
      exact ⟨by kernel_rfl, by kernel_rfl, run_load1 (by kernel_rfl) (cell_blk (hJ.heap (unhide H2)) 5).1, rfl⟩
    refine wpO_cons (oop (binOp .eql 22 (.int .u64 x.tval) (.int .u64 y.tval)) (.bool false) GN.refl fun w_ hJ hd => ?_) ?_
    · have e35 : vals 35 = _ := hd 35 (by decide)
      have e37 : vals 37 = _ := hd 37 (by decide)
      have e33 : vals 33 = _ := hd 33 (by decide)
      rw [e35, e37, e33]
      exact ⟨by kernel_rfl, by kernel_rfl, run_eq22f (unhide h5) w_, rfl⟩
    refine wpO_cons (oval (.bool false) GN.refl fun w_ hJ hd => ?_) ?_
    · have e33 : vals 33 = _ := hd 33 (by decide)
      have e38 : vals 38 = _ := hd 38 (by decide)
      rw [e33, e38]
      exact ⟨by kernel_rfl, by kernel_rfl, rfl⟩
    refine wpO_cons (oval (.bool false) GN.refl fun w_ hJ hd => ?_) ?_
    · have e39 : vals 39 = _ := hd 39 (by decide)
      rw [e39]
      exact ⟨by kernel_rfl, by kernel_rfl, rfl⟩
    refine wpO_cons (oskip fun w_ hJ hd => ?_) ?_
    · have e40 : vals 40 = _ := hd 40 (by decide)
      rw [e40]
      exact ⟨by kernel_rfl, rfl⟩
    refine wpO_cons (oskip fun w_ hJ hd => ?_) ?_
    · have e40 : vals 40 = _ := hd 40 (by decide)
      rw [e40]
      exact ⟨by kernel_rfl, rfl⟩
    refine wpO_cons (oskip fun w_ hJ hd => ?_) ?_
    · have e40 : vals 40 = _ := hd 40 (by decide)
      rw [e40]
      exact ⟨by kernel_rfl, rfl⟩
    refine wpO_cons (oskip fun w_ hJ hd => ?_) ?_
    · have e40 : vals 40 = _ := hd 40 (by decide)
      rw [e40]
      exact ⟨by kernel_rfl, rfl⟩
    refine wpO_cons (oskip fun w_ hJ hd => ?_) ?_
    · have e40 : vals 40 = _ := hd 40 (by decide)
      rw [e40]
      exact ⟨by kernel_rfl, rfl⟩
    refine wpO_cons (oval (.bool false) GN.refl fun w_ hJ hd => ?_) ?_
    · have e40 : vals 40 = _ := hd 40 (by decide)
      have e45 : vals 45 = _ := hd 45 (by decide)
      rw [e40, e45]
      exact ⟨by kernel_rfl, by kernel_rfl, rfl⟩
    refine wpO_cons (oval (.bool false) GN.refl fun w_ hJ hd => ?_) ?_
    · have e46 : vals 46 = _ := hd 46 (by decide)
      rw [e46]
      exact ⟨by kernel_rfl, by kernel_rfl, rfl⟩
    refine wpO_cons (oskip fun w_ hJ hd => ?_) ?_
    · have e47 : vals 47 = _ := hd 47 (by decide)
      rw [e47]
      exact ⟨by kernel_rfl, rfl⟩
    refine wpO_cons (oskip fun w_ hJ hd => ?_) ?_
    · have e47 : vals 47 = _ := hd 47 (by decide)
      rw [e47]
      exact ⟨by kernel_rfl, rfl⟩
    refine wpO_cons (oskip fun w_ hJ hd => ?_) ?_
    · have e47 : vals 47 = _ := hd 47 (by decide)
      rw [e47]
      exact ⟨by kernel_rfl, rfl⟩
    refine wpO_cons (oskip fun w_ hJ hd => ?_) ?_
    · have e47 : vals 47 = _ := hd 47 (by decide)
      rw [e47]
      exact ⟨by kernel_rfl, rfl⟩
    refine wpO_cons (oskip fun w_ hJ hd => ?_) ?_
    · have e47 : vals 47 = _ := hd 47 (by decide)
      rw [e47]
      exact ⟨by kernel_rfl, rfl⟩
    refine wpO_cons (oskip fun w_ hJ hd => ?_) ?_
    · have e47 : vals 47 = _ := hd 47 (by decide)
      rw [e47]
      exact ⟨by kernel_rfl, rfl⟩
    refine wpO_cons (oskip fun w_ hJ hd => ?_) ?_
    · have e47 : vals 47 = _ := hd 47 (by decide)
      rw [e47]
      exact ⟨by kernel_rfl, rfl⟩
    refine wpO_cons (oskip fun w_ hJ hd => ?_) ?_
    · have e47 : vals 47 = _ := hd 47 (by decide)
      rw [e47]
      exact ⟨by kernel_rfl, rfl⟩
    refine wpO_cons (oskip fun w_ hJ hd => ?_) ?_
    · have e47 : vals 47 = _ := hd 47 (by decide)
      rw [e47]
      exact ⟨by kernel_rfl, rfl⟩
    refine wpO_cons (oskip fun w_ hJ hd => ?_) ?_
    · have e47 : vals 47 = _ := hd 47 (by decide)
      rw [e47]
      exact ⟨by kernel_rfl, rfl⟩
    refine wpO_cons (oval (.bool false) GN.refl fun w_ hJ hd => ?_) ?_
    · have e47 : vals 47 = _ := hd 47 (by decide)
      have e57 : vals 57 = _ := hd 57 (by decide)
      rw [e47, e57]
      exact ⟨by kernel_rfl, by kernel_rfl, rfl⟩
    refine wpO_cons (oval (.bool false) GN.refl fun w_ hJ hd => ?_) wpO_nil
    · have e58 : vals 58 = _ := hd 58 (by decide)
      rw [e58]
      exact ⟨by kernel_rfl, by kernel_rfl, rfl⟩
  · intro vals w_ hJ hf
    have e0 : vals 0 = _ := hf 0 (by decide)
    have e1 : vals 1 = _ := hf 1 (by decide)
    have e2 : vals 2 = _ := hf 2 (by decide)
    have e3 : vals 3 = _ := hf 3 (by decide)
    have e4 : vals 4 = _ := hf 4 (by decide)
    have e5 : vals 5 = _ := hf 5 (by decide)
    have e6 : vals 6 = _ := hf 6 (by decide)
    have e7 : vals 7 = _ := hf 7 (by decide)
    have e8 : vals 8 = _ := hf 8 (by decide)
    have e9 : vals 9 = _ := hf 9 (by decide)
    have e10 : vals 10 = _ := hf 10 (by decide)
    have e11 : vals 11 = _ := hf 11 (by decide)
    have e12 : vals 12 = _ := hf 12 (by decide)
    have e13 : vals 13 = _ := hf 13 (by decide)
    have e14 : vals 14 = _ := hf 14 (by decide)
    have e15 : vals 15 = _ := hf 15 (by decide)
    have e16 : vals 16 = _ := hf 16 (by decide)
    have e17 : vals 17 = _ := hf 17 (by decide)
    have e18 : vals 18 = _ := hf 18 (by decide)
    have e19 : vals 19 = _ := hf 19 (by decide)
    have e20 : vals 20 = _ := hf 20 (by decide)
    have e21 : vals 21 = _ := hf 21 (by decide)
    have e22 : vals 22 = _ := hf 22 (by decide)
    have e23 : vals 23 = _ := hf 23 (by decide)
    have e24 : vals 24 = _ := hf 24 (by decide)
    have e25 : vals 25 = _ := hf 25 (by decide)
    have e26 : vals 26 = _ := hf 26 (by decide)
    have e27 : vals 27 = _ := hf 27 (by decide)
    have e28 : vals 28 = _ := hf 28 (by decide)
    have e29 : vals 29 = _ := hf 29 (by decide)
    have e30 : vals 30 = _ := hf 30 (by decide)
    have e31 : vals 31 = _ := hf 31 (by decide)
    have e32 : vals 32 = _ := hf 32 (by decide)
    have e33 : vals 33 = _ := hf 33 (by decide)
    have e34 : vals 34 = _ := hf 34 (by decide)
    have e35 : vals 35 = _ := hf 35 (by decide)
    have e36 : vals 36 = _ := hf 36 (by decide)
    have e37 : vals 37 = _ := hf 37 (by decide)
    have e38 : vals 38 = _ := hf 38 (by decide)
    have e39 : vals 39 = _ := hf 39 (by decide)
    have e40 : vals 40 = _ := hf 40 (by decide)
    have e41 : vals 41 = _ := hf 41 (by decide)
    have e42 : vals 42 = _ := hf 42 (by decide)
    have e43 : vals 43 = _ := hf 43 (by decide)
    have e44 : vals 44 = _ := hf 44 (by decide)
    have e45 : vals 45 = _ := hf 45 (by decide)
    have e46 : vals 46 = _ := hf 46 (by decide)
    have e47 : vals 47 = _ := hf 47 (by decide)
    have e48 : vals 48 = _ := hf 48 (by decide)
    have e49 : vals 49 = _ := hf 49 (by decide)
    have e50 : vals 50 = _ := hf 50 (by decide)
    have e51 : vals 51 = _ := hf 51 (by decide)
    have e52 : vals 52 = _ := hf 52 (by decide)
    have e53 : vals 53 = _ := hf 53 (by decide)
    have e54 : vals 54 = _ := hf 54 (by decide)
    have e55 : vals 55 = _ := hf 55 (by decide)
    have e56 : vals 56 = _ := hf 56 (by decide)
    have e57 : vals 57 = _ := hf 57 (by decide)
    have e58 : vals 58 = _ := hf 58 (by decide)
    have e59 : vals 59 = _ := hf 59 (by decide)
    show Exit.then _ _ _ (fillG vals 0 (_ :: _ :: _ :: _ :: _ :: _ :: _ :: _ :: _ :: _ :: _ :: _ :: _ :: _ :: _ :: _ :: _ :: _ :: _ :: _ :: _ :: _ :: _ :: _ :: _ :: _ :: _ :: _ :: _ :: _ :: _ :: _ :: _ :: _ :: _ :: _ :: _ :: _ :: _ :: _ :: _ :: _ :: _ :: _ :: _ :: _ :: _ :: _ :: _ :: _ :: _ :: _ :: _ :: _ :: _ :: _ :: _ :: _ :: _ :: _ :: []) _) _
    simp only [fillG, Nat.zero_add, Nat.reduceAdd, e0, e1, e2, e3, e4, e5, e6, e7, e8, e9, e10, e11, e12, e13, e14, e15, e16, e17, e18, e19, e20, e21, e22, e23, e24, e25, e26, e27, e28, e29, e30, e31, e32, e33, e34, e35, e36, e37, e38, e39, e40, e41, e42, e43, e44, e45, e46, e47, e48, e49, e50, e51, e52, e53, e54, e55, e56, e57, e58, e59, Act.put, List.setIfInBounds_toArray, List.set_cons_succ, List.set_cons_zero]
    clear e0 e1 e2 e3 e4 e5 e6 e7 e8 e9 e10 e11 e12 e13 e14 e15 e16 e17 e18 e19 e20 e21 e22 e23 e24 e25 e26 e27 e28 e29 e30 e31 e32 e33 e34 e35 e36 e37 e38 e39 e40 e41 e42 e43 e44 e45 e46 e47 e48 e49 e50 e51 e52 e53 e54 e55 e56 e57 e58 e59 hf
    have hg := GN.trans (unhide HG) hJ
    clear hJ H1 H2 Hx Hy h0 h1 h2 h3 h4 h5
    have Hg := hide hg
    clear hg
    go_wp2
    go_ret
    exact ⟨rfl, unhide Hg⟩
set_option maxRecDepth 100000 in
set_option maxHeartbeats 4000000 in
theorem same_d6 {x y : It} (hx : II x) (hy : II y) (h0 : Hid (x.pc = y.pc)) (h1 : Hid (x.bits = y.bits)) (h2 : Hid (x.inst = y.inst)) (h3 : Hid (x.size = y.size)) (h4 : Hid (x.cause = y.cause)) (h5 : Hid (x.tval = y.tval)) (h6 : Hid (x.nxt ≠ y.nxt)) (w : World) :
    Calls Tryd.prog 24 #[.agg (itl x).toArray, .agg (itl y).toArray] w fun r w' => r = .returned (.bool false) ∧ GN w w' := by
  have J := ((Heap.nil w).new (itl x).toArray 38).new (itl y).toArray 61
  obtain ⟨k1, hk1⟩ : ∃ k, w.heap.size = k := ⟨_, rfl⟩
  simp only [World.size_alloc, hk1] at J
  have H := hide J
  have Hx := hide hx
  have Hy := hide hy
  clear J hx hy
  go_enter Tryd.func24, Tryd.ntmps24
  go_upto_region 1 with fail
  have J := unhide H
  obtain ⟨k2, hk2⟩ : ∃ k, k1 + 1 = k := ⟨_, rfl⟩
  rw [hk2] at J ⊢
  generalize (w.alloc (.cells (itl x).toArray 38)).alloc (.cells (itl y).toArray 61) = w2 at J ⊢
  have H1 := hide (Heap.heap J.f2)
  have H2 := hide (Heap.heap J)
  have HG := hide (gn_of_below J.below)
  clear H J hk1 hk2
  refine wp_list_O (fun w_ => GN w2 w_) GN (fun k_ v_ w_ => match k_ with
      | 0 => v_ = .pointer (some ⟨k1, 0 + 0, none⟩)
      | 1 => v_ = .int .u64 x.pc
      | 2 => v_ = .pointer (some ⟨k2, 0 + 0, none⟩)
      | 3 => v_ = .int .u64 y.pc
      | 4 => v_ = .bool true
      | 5 => v_ = .bool true
      | 6 => v_ = .pointer (some ⟨k1, 0 + 1, none⟩)
      | 7 => v_ = .int .u32 x.bits
      | 8 => v_ = .pointer (some ⟨k2, 0 + 1, none⟩)
      | 9 => v_ = .int .u32 y.bits
      | 10 => v_ = .bool true
      | 11 => v_ = .bool true
      | 12 => v_ = .bool true
      | 13 => v_ = .pointer (some ⟨k1, 0 + 2, none⟩)
      | 14 => v_ = .int .u32 x.inst
      | 15 => v_ = .pointer (some ⟨k2, 0 + 2, none⟩)
      | 16 => v_ = .int .u32 y.inst
      | 17 => v_ = .bool true
      | 18 => v_ = .bool true
      | 19 => v_ = .bool true
      | 20 => v_ = .pointer (some ⟨k1, 0 + 3, none⟩)
      | 21 => v_ = .int .i64 x.size
      | 22 => v_ = .pointer (some ⟨k2, 0 + 3, none⟩)
      | 23 => v_ = .int .i64 y.size
      | 24 => v_ = .bool true
      | 25 => v_ = .bool true
      | 26 => v_ = .bool true
      | 27 => v_ = .pointer (some ⟨k1, 0 + 4, none⟩)
      | 28 => v_ = .int .u64 x.cause
      | 29 => v_ = .pointer (some ⟨k2, 0 + 4, none⟩)
      | 30 => v_ = .int .u64 y.cause
      | 31 => v_ = .bool true
      | 32 => v_ = .bool true
      | 33 => v_ = .bool true
      | 34 => v_ = .pointer (some ⟨k1, 0 + 5, none⟩)
      | 35 => v_ = .int .u64 x.tval
      | 36 => v_ = .pointer (some ⟨k2, 0 + 5, none⟩)
      | 37 => v_ = .int .u64 y.tval
      | 38 => v_ = .bool true
      | 39 => v_ = .bool true
      | 40 => v_ = .bool true
      | 41 => v_ = .pointer (some ⟨k1, 0 + 6, none⟩)
      | 42 => v_ = .int .u64 x.nxt
      | 43 => v_ = .pointer (some ⟨k2, 0 + 6, none⟩)
      | 44 => v_ = .int .u64 y.nxt
      | 45 => v_ = .bool false
      | 46 => v_ = .bool false
      | 47 => v_ = .bool false
      | 48 => v_ = undef
      | 49 => v_ = undef
      | 50 => v_ = undef
      | 51 => v_ = undef
      | 52 => v_ = undef
      | 53 => v_ = undef
      | 54 => v_ = undef
      | 55 => v_ = undef
      | 56 => v_ = undef
      | 57 => v_ = undef
      | 58 => v_ = .bool false
      | _ => v_ = .bool false) ?_ ?_ GN.refl ?_ ?_
  · exact GN.refl w2
  · intro k_ v_ w_ w2_ h1 hg
    split at h1 <;> exact h1
  · intro vals
    show wpO _ _ _ _ _ _ 0 (_ :: _) _
    refine wpO_cons (oval (.pointer (some ⟨k1, 0 + 0, none⟩)) GN.refl fun w_ hJ hd => ?_) ?_
    · exact ⟨by kernel_rfl, by kernel_rfl, rfl⟩
    refine wpO_cons (oop (Instr.loadAt 22 (.pointer (some ⟨k1, 0 + 0, none⟩))) (.int .u64 x.pc) GN.refl fun w_ hJ hd => ?_) ?_
    · have e0 : vals 0 = _ := hd 0 (by decide)
      rw [e0]
      exact ⟨by kernel_rfl, by kernel_rfl, run_load1 (by kernel_rfl) (cell_blk (hJ.heap (unhide H1)) 0).1, rfl⟩
    refine wpO_cons (oval (.pointer (some ⟨k2, 0 + 0, none⟩)) GN.refl fun w_ hJ hd => ?_) ?_
    · exact ⟨by kernel_rfl, by kernel_rfl, rfl⟩
    refine wpO_cons (oop (Instr.loadAt 22 (.pointer (some ⟨k2, 0 + 0, none⟩))) (.int .u64 y.pc) GN.refl fun w_ hJ hd => ?_) ?_
    · have e2 : vals 2 = _ := hd 2 (by decide)
      rw [e2]
      exact ⟨by kernel_rfl, by kernel_rfl, run_load1 (by kernel_rfl) (cell_blk (hJ.heap (unhide H2)) 0).1, rfl⟩
    refine wpO_cons (oop (binOp .eql 22 (.int .u64 x.pc) (.int .u64 y.pc)) (.bool true) GN.refl fun w_ hJ hd => ?_) ?_
    · have e1 : vals 1 = _ := hd 1 (by decide)
      have e3 : vals 3 = _ := hd 3 (by decide)
      rw [e1, e3]
      exact ⟨by kernel_rfl, by kernel_rfl, run_eq22t (unhide h0) w_, rfl⟩
    refine wpO_cons (oval (.bool true) GN.refl fun w_ hJ hd => ?_) ?_
    · have e4 : vals 4 = _ := hd 4 (by decide)
      rw [e4]
      exact ⟨by kernel_rfl, by kernel_rfl, rfl⟩
    refine wpO_cons (oval (.pointer (some ⟨k1, 0 + 1, none⟩)) GN.refl fun w_ hJ hd => ?_) ?_
    · have e5 : vals 5 = _ := hd 5 (by decide)
      rw [e5]
      exact ⟨by kernel_rfl, by kernel_rfl, rfl⟩
    refine wpO_cons (oop (Instr.loadAt 33 (.pointer (some ⟨k1, 0 + 1, none⟩))) (.int .u32 x.bits) GN.refl fun w_ hJ hd => ?_) ?_
    · have e6 : vals 6 = _ := hd 6 (by decide)
      have e5 : vals 5 = _ := hd 5 (by decide)
      rw [e6, e5]
      exact ⟨by kernel_rfl, by kernel_rfl, run_load1 (by kernel_rfl) (cell_blk (hJ.heap (unhide H1)) 1).1, rfl⟩
    refine wpO_cons (oval (.pointer (some ⟨k2, 0 + 1, none⟩)) GN.refl fun w_ hJ hd => ?_) ?_
    · have e5 : vals 5 = _ := hd 5 (by decide)
      rw [e5]
      exact ⟨by kernel_rfl, by kernel_rfl, rfl⟩
    refine wpO_cons (oop (Instr.loadAt 33 (.pointer (some ⟨k2, 0 + 1, none⟩))) (.int .u32 y.bits) GN.refl fun w_ hJ hd => ?_) ?_
    · have e8 : vals 8 = _ := hd 8 (by decide)
      have e5 : vals 5 = _ := hd 5 (by decide)
      rw [e8, e5]
      exact ⟨by kernel_rfl, by kernel_rfl, run_load1 (by kernel_rfl) (cell_blk (hJ.heap (unhide H2)) 1).1, rfl⟩
    refine wpO_cons (oop (binOp .eql 33 (.int .u32 x.bits) (.int .u32 y.bits)) (.bool true) GN.refl fun w_ hJ hd => ?_) ?_
    · have e7 : vals 7 = _ := hd 7 (by decide)
      have e9 : vals 9 = _ := hd 9 (by decide)
      have e5 : vals 5 = _ := hd 5 (by decide)
      rw [e7, e9, e5]
      exact ⟨by kernel_rfl, by kernel_rfl, run_eq33t (unhide h1) w_, rfl⟩
    refine wpO_cons (oval (.bool true) GN.refl fun w_ hJ hd => ?_) ?_
    · have e5 : vals 5 = _ := hd 5 (by decide)
      have e10 : vals 10 = _ := hd 10 (by decide)
      rw [e5, e10]
      exact ⟨by kernel_rfl, by kernel_rfl, rfl⟩
    refine wpO_cons (oval (.bool true) GN.refl fun w_ hJ hd => ?_) ?_
    · have e11 : vals 11 = _ := hd 11 (by decide)
      rw [e11]
      exact ⟨by kernel_rfl, by kernel_rfl, rfl⟩
    refine wpO_cons (oval (.pointer (some ⟨k1, 0 + 2, none⟩)) GN.refl fun w_ hJ hd => ?_) ?_
    · have e12 : vals 12 = _ := hd 12 (by decide)
      rw [e12]
      exact ⟨by kernel_rfl, by kernel_rfl, rfl⟩
    refine wpO_cons (oop (Instr.loadAt 33 (.pointer (some ⟨k1, 0 + 2, none⟩))) (.int .u32 x.inst) GN.refl fun w_ hJ hd => ?_) ?_
    · have e13 : vals 13 = _ := hd 13 (by decide)
      have e12 : vals 12 = _ := hd 12 (by decide)
      rw [e13, e12]
      exact ⟨by kernel_rfl, by kernel_rfl, run_load1 (by kernel_rfl) (cell_blk (hJ.heap (unhide H1)) 2).1, rfl⟩
    refine wpO_cons (oval (.pointer (some ⟨k2, 0 + 2, none⟩)) GN.refl fun w_ hJ hd => ?_) ?_
    · have e12 : vals 12 = _ := hd 12 (by decide)
      rw [e12]
      exact ⟨by kernel_rfl, by kernel_rfl, rfl⟩
    refine wpO_cons (oop (Instr.loadAt 33 (.pointer (some ⟨k2, 0 + 2, none⟩))) (.int .u32 y.inst) GN.refl fun w_ hJ hd => ?_) ?_
    · have e15 : vals 15 = _ := hd 15 (by decide)
      have e12 : vals 12 = _ := hd 12 (by decide)
      rw [e15, e12]
      exact ⟨by kernel_rfl, by kernel_rfl, run_load1 (by kernel_rfl) (cell_blk (hJ.heap (unhide H2)) 2).1, rfl⟩
    refine wpO_cons (oop (binOp .eql 33 (.int .u32 x.inst) (.int .u32 y.inst)) (.bool true) GN.refl fun w_ hJ hd => ?_) ?_
    · have e14 : vals 14 = _ := hd 14 (by decide)
      have e16 : vals 16 = _ := hd 16 (by decide)
      have e12 : vals 12 = _ := hd 12 (by decide)
      rw [e14, e16, e12]
      exact ⟨by kernel_rfl, by kernel_rfl, run_eq33t (unhide h2) w_, rfl⟩
    refine wpO_cons (oval (.bool true) GN.refl fun w_ hJ hd => ?_) ?_
    · have e12 : vals 12 = _ := hd 12 (by decide)
      have e17 : vals 17 = _ := hd 17 (by decide)
      rw [e12, e17]
      exact ⟨by kernel_rfl, by kernel_rfl, rfl⟩
    refine wpO_cons (oval (.bool true) GN.refl fun w_ hJ hd => ?_) ?_
    · have e18 : vals 18 = _ := hd 18 (by decide)
      rw [e18]
      exact ⟨by kernel_rfl, by kernel_rfl, rfl⟩
    refine wpO_cons (oval (.pointer (some ⟨k1, 0 + 3, none⟩)) GN.refl fun w_ hJ hd => ?_) ?_
    · have e19 : vals 19 = _ := hd 19 (by decide)
      rw [e19]
      exact ⟨by kernel_rfl, by kernel_rfl, rfl⟩
    refine wpO_cons (oop (Instr.loadAt 3 (.pointer (some ⟨k1, 0 + 3, none⟩))) (.int .i64 x.size) GN.refl fun w_ hJ hd => ?_) ?_
    · have e20 : vals 20 = _ := hd 20 (by decide)
      have e19 : vals 19 = _ := hd 19 (by decide)
      rw [e20, e19]
      exact ⟨by kernel_rfl, by kernel_rfl, run_load1 (by kernel_rfl) (cell_blk (hJ.heap (unhide H1)) 3).1, rfl⟩
    refine wpO_cons (oval (.pointer (some ⟨k2, 0 + 3, none⟩)) GN.refl fun w_ hJ hd => ?_) ?_
    · have e19 : vals 19 = _ := hd 19 (by decide)
      rw [e19]
      exact ⟨by kernel_rfl, by kernel_rfl, rfl⟩
    refine wpO_cons (oop (Instr.loadAt 3 (.pointer (some ⟨k2, 0 + 3, none⟩))) (.int .i64 y.size) GN.refl fun w_ hJ hd => ?_) ?_
    · have e22 : vals 22 = _ := hd 22 (by decide)
      have e19 : vals 19 = _ := hd 19 (by decide)
      rw [e22, e19]
      exact ⟨by kernel_rfl, by kernel_rfl, run_load1 (by kernel_rfl) (cell_blk (hJ.heap (unhide H2)) 3).1, rfl⟩
    refine wpO_cons (oop (binOp .eql 3 (.int .i64 x.size) (.int .i64 y.size)) (.bool true) GN.refl fun w_ hJ hd => ?_) ?_
    · have e21 : vals 21 = _ := hd 21 (by decide)
      have e23 : vals 23 = _ := hd 23 (by decide)
      have e19 : vals 19 = _ := hd 19 (by decide)
      rw [e21, e23, e19]
      exact ⟨by kernel_rfl, by kernel_rfl, run_eq3t (unhide h3) w_, rfl⟩
    refine wpO_cons (oval (.bool true) GN.refl fun w_ hJ hd => ?_) ?_
    · have e19 : vals 19 = _ := hd 19 (by decide)
      have e24 : vals 24 = _ := hd 24 (by decide)
      rw [e19, e24]
      exact ⟨by kernel_rfl, by kernel_rfl, rfl⟩
    refine wpO_cons (oval (.bool true) GN.refl fun w_ hJ hd => ?_) ?_
    · have e25 : vals 25 = _ := hd 25 (by decide)
      rw [e25]
      exact ⟨by kernel_rfl, by kernel_rfl, rfl⟩
    refine wpO_cons (oval (.pointer (some ⟨k1, 0 + 4, none⟩)) GN.refl fun w_ hJ hd => ?_) ?_
    · have e26 : vals 26 = _ := hd 26 (by decide)
      rw [e26]
      exact ⟨by kernel_rfl, by kernel_rfl, rfl⟩
    refine wpO_cons (oop (Instr.loadAt 22 (.pointer (some ⟨k1, 0 + 4, none⟩))) (.int .u64 x.cause) GN.refl fun w_ hJ hd => ?_) ?_
    · have e27 : vals 27 = _ := hd 27 (by decide)
      have e26 : vals 26 = _ := hd 26 (by decide)
      rw [e27, e26]
      exact ⟨by kernel_rfl, by kernel_rfl, run_load1 (by kernel_rfl) (cell_blk (hJ.heap (unhide H1)) 4).1, rfl⟩
    refine wpO_cons (oval (.pointer (some ⟨k2, 0 + 4, none⟩)) GN.refl fun w_ hJ hd => ?_) ?_
    · have e26 : vals 26 = _ := hd 26 (by decide)
      rw [e26]
      exact ⟨by kernel_rfl, by kernel_rfl, rfl⟩
    refine wpO_cons (oop (Instr.loadAt 22 (.pointer (some ⟨k2, 0 + 4, none⟩))) (.int .u64 y.cause) GN.refl fun w_ hJ hd => ?_) ?_
    · have e29 : vals 29 = _ := hd 29 (by decide)
      have e26 : vals 26 = _ := hd 26 (by decide)
      rw [e29, e26]
      exact ⟨by kernel_rfl, by kernel_rfl, run_load1 (by kernel_rfl) (cell_blk (hJ.heap (unhide H2)) 4).1, rfl⟩
    refine wpO_cons (oop (binOp .eql 22 (.int .u64 x.cause) (.int .u64 y.cause)) (.bool true) GN.refl fun w_ hJ hd => ?_) ?_
    · have e28 : vals 28 = _ := hd 28 (by decide)
      have e30 : vals 30 = _ := hd 30 (by decide)
      have e26 : vals 26 = _ := hd 26 (by decide)
      rw [e28, e30, e26]
      exact ⟨by kernel_rfl, by kernel_rfl, run_eq22t (unhide h4) w_, rfl⟩
    refine wpO_cons (oval (.bool true) GN.refl fun w_ hJ hd => ?_) ?_
    · have e26 : vals 26 = _ := hd 26 (by decide)
      have e31 : vals 31 = _ := hd 31 (by decide)
      rw [e26, e31]
      exact ⟨by kernel_rfl, by kernel_rfl, rfl⟩
    refine wpO_cons (oval (.bool true) GN.refl fun w_ hJ hd => ?_) ?_
    · have e32 : vals 32 = _ := hd 32 (by decide)
      rw [e32]
      exact ⟨by kernel_rfl, by kernel_rfl, rfl⟩
    refine wpO_cons (oval (.pointer (some ⟨k1, 0 + 5, none⟩)) GN.refl fun w_ hJ hd => ?_) ?_
    · have e33 : vals 33 = _ := hd 33 (by decide)
      rw [e33]
      exact ⟨by kernel_rfl, by kernel_rfl, rfl⟩
    refine wpO_cons (oop (Instr.loadAt 22 (.pointer (some ⟨k1, 0 + 5, none⟩))) (.int .u64 x.tval) GN.refl fun w_ hJ hd => ?_) ?_
    · have e34 : vals 34 = _ := hd 34 (by decide)
      have e33 : vals 33 = _ := hd 33 (by decide)
      rw [e34, e33]
      exact ⟨by kernel_rfl, by kernel_rfl, run_load1 (by kernel_rfl) (cell_blk (hJ.heap (unhide H1)) 5).1, rfl⟩
    refine wpO_cons (oval (.pointer (some ⟨k2, 0 + 5, none⟩)) GN.refl fun w_ hJ hd => ?_) ?_
    · have e33 : vals 33 = _ := hd 33 (by decide)
      rw [e33]
      exact ⟨by kernel_rfl, by kernel_rfl, rfl⟩
    refine wpO_cons (oop (Instr.loadAt 22 (.pointer (some ⟨k2, 0 + 5, none⟩))) (.int .u64 y.tval) GN.refl fun w_ hJ hd => ?_) ?_
    · have e36 : vals 36 = _ := hd 36 (by decide)
      have e33 : vals 33 = _ := hd 33 (by decide)
      rw [e36, e33]
      exact ⟨by kernel_rfl, by kernel_rfl, run_load1 (by kernel_rfl) (cell_blk (hJ.heap (unhide H2)) 5).1, rfl⟩
    refine wpO_cons (oop (binOp .eql 22 (.int .u64 x.tval) (.int .u64 y.tval)) (.bool true) GN.refl fun w_ hJ hd => ?_) ?_
    · have e35 : vals 35 = _ := hd 35 (by decide)
      have e37 : vals 37 = _ := hd 37 (by decide)
      have e33 : vals 33 = _ := hd 33 (by decide)
      rw [e35, e37, e33]
      exact ⟨by kernel_rfl, by kernel_rfl, run_eq22t (unhide h5) w_, rfl⟩
    refine wpO_cons (oval (.bool true) GN.refl fun w_ hJ hd => ?_) ?_
    · have e33 : vals 33 = _ := hd 33 (by decide)
      have e38 : vals 38 = _ := hd 38 (by decide)
      rw [e33, e38]
      exact ⟨by kernel_rfl, by kernel_rfl, rfl⟩
    refine wpO_cons (oval (.bool true) GN.refl fun w_ hJ hd => ?_) ?_
    · have e39 : vals 39 = _ := hd 39 (by decide)
      rw [e39]
      exact ⟨by kernel_rfl, by kernel_rfl, rfl⟩
    refine wpO_cons (oval (.pointer (some ⟨k1, 0 + 6, none⟩)) GN.refl fun w_ hJ hd => ?_) ?_
    · have e40 : vals 40 = _ := hd 40 (by decide)
      rw [e40]
      exact ⟨by kernel_rfl, by kernel_rfl, rfl⟩
    refine wpO_cons (oop (Instr.loadAt 22 (.pointer (some ⟨k1, 0 + 6, none⟩))) (.int .u64 x.nxt) GN.refl fun w_ hJ hd => ?_) ?_
    · have e41 : vals 41 = _ := hd 41 (by decide)
      have e40 : vals 40 = _ := hd 40 (by decide)
      rw [e41, e40]
      exact ⟨by kernel_rfl, by kernel_rfl, run_load1 (by kernel_rfl) (cell_blk (hJ.heap (unhide H1)) 6).1, rfl⟩
    refine wpO_cons (oval (.pointer (some ⟨k2, 0 + 6, none⟩)) GN.refl fun w_ hJ hd => ?_) ?_
    · have e40 : vals 40 = _ := hd 40 (by decide)
      rw [e40]
      exact ⟨by kernel_rfl, by kernel_rfl, rfl⟩
    refine wpO_cons (oop (Instr.loadAt 22 (.pointer (some ⟨k2, 0 + 6, none⟩))) (.int .u64 y.nxt) GN.refl fun w_ hJ hd => ?_) ?_
    · have e43 : vals 43 = _ := hd 43 (by decide)
      have e40 : vals 40 = _ := hd 40 (by decide)
      rw [e43, e40]
      exact ⟨by kernel_rfl, by kernel_rfl, run_load1 (by kernel_rfl) (cell_blk (hJ.heap (unhide H2)) 6).1, rfl⟩
    refine wpO_cons (oop (binOp .eql 22 (.int .u64 x.nxt) (.int .u64 y.nxt)) (.bool false) GN.refl fun w_ hJ hd => ?_) ?_
    · have e42 : vals 42 = _ := hd 42 (by decide)
      have e44 : vals 44 = _ := hd 44 (by decide)
      have e40 : vals 40 = _ := hd 40 (by decide)
      rw [e42, e44, e40]
      exact ⟨by kernel_rfl, by kernel_rfl, run_eq22f (unhide h6) w_, rfl⟩
    refine wpO_cons (oval (.bool false) GN.refl fun w_ hJ hd => ?_) ?_
    · have e40 : vals 40 = _ := hd 40 (by decide)
      have e45 : vals 45 = _ := hd 45 (by decide)
      rw [e40, e45]
      exact ⟨by kernel_rfl, by kernel_rfl, rfl⟩
    refine wpO_cons (oval (.bool false) GN.refl fun w_ hJ hd => ?_) ?_
    · have e46 : vals 46 = _ := hd 46 (by decide)
      rw [e46]
      exact ⟨by kernel_rfl, by kernel_rfl, rfl⟩
    refine wpO_cons (oskip fun w_ hJ hd => ?_) ?_
    · have e47 : vals 47 = _ := hd 47 (by decide)
      rw [e47]
      exact ⟨by kernel_rfl, rfl⟩
    refine wpO_cons (oskip fun w_ hJ hd => ?_) ?_
    · have e47 : vals 47 = _ := hd 47 (by decide)
      rw [e47]
      exact ⟨by kernel_rfl, rfl⟩
    refine wpO_cons (oskip fun w_ hJ hd => ?_) ?_
    · have e47 : vals 47 = _ := hd 47 (by decide)
      rw [e47]
      exact ⟨by kernel_rfl, rfl⟩
    refine wpO_cons (oskip fun w_ hJ hd => ?_) ?_
    · have e47 : vals 47 = _ := hd 47 (by decide)
      rw [e47]
      exact ⟨by kernel_rfl, rfl⟩
    refine wpO_cons (oskip fun w_ hJ hd => ?_) ?_
    · have e47 : vals 47 = _ := hd 47 (by decide)
      rw [e47]
      exact ⟨by kernel_rfl, rfl⟩
    refine wpO_cons (oskip fun w_ hJ hd => ?_) ?_
    · have e47 : vals 47 = _ := hd 47 (by decide)
      rw [e47]
      exact ⟨by kernel_rfl, rfl⟩
    refine wpO_cons (oskip fun w_ hJ hd => ?_) ?_
    · have e47 : vals 47 = _ := hd 47 (by decide)
      rw [e47]
      exact ⟨by kernel_rfl, rfl⟩
    refine wpO_cons (oskip fun w_ hJ hd => ?_) ?_
    · have e47 : vals 47 = _ := hd 47 (by decide)
      rw [e47]
      exact ⟨by kernel_rfl, rfl⟩
    refine wpO_cons (oskip fun w_ hJ hd => ?_) ?_
    · have e47 : vals 47 = _ := hd 47 (by decide)
      rw [e47]
      exact ⟨by kernel_rfl, rfl⟩
    refine wpO_cons (oskip fun w_ hJ hd => ?_) ?_
    · have e47 : vals 47 = _ := hd 47 (by decide)
      rw [e47]
      exact ⟨by kernel_rfl, rfl⟩
    refine wpO_cons (oval (.bool false) GN.refl fun w_ hJ hd => ?_) ?_
    · have e47 : vals 47 = _ := hd 47 (by decide)
      have e57 : vals 57 = _ := hd 57 (by decide)
      rw [e47, e57]
      exact ⟨by kernel_rfl, by kernel_rfl, rfl⟩
    refine wpO_cons (oval (.bool false) GN.refl fun w_ hJ hd => ?_) wpO_nil
    · have e58 : vals 58 = _ := hd 58 (by decide)
      rw [e58]
      exact ⟨by kernel_rfl, by kernel_rfl, rfl⟩
  · intro vals w_ hJ hf
    have e0 : vals 0 = _ := hf 0 (by decide)
    have e1 : vals 1 = _ := hf 1 (by decide)
    have e2 : vals 2 = _ := hf 2 (by decide)
    have e3 : vals 3 = _ := hf 3 (by decide)
    have e4 : vals 4 = _ := hf 4 (by decide)
    have e5 : vals 5 = _ := hf 5 (by decide)
    have e6 : vals 6 = _ := hf 6 (by decide)
    have e7 : vals 7 = _ := hf 7 (by decide)
    have e8 : vals 8 = _ := hf 8 (by decide)
    have e9 : vals 9 = _ := hf 9 (by decide)
    have e10 : vals 10 = _ := hf 10 (by decide)
    have e11 : vals 11 = _ := hf 11 (by decide)
    have e12 : vals 12 = _ := hf 12 (by decide)
    have e13 : vals 13 = _ := hf 13 (by decide)
    have e14 : vals 14 = _ := hf 14 (by decide)
    have e15 : vals 15 = _ := hf 15 (by decide)
    have e16 : vals 16 = _ := hf 16 (by decide)
    have e17 : vals 17 = _ := hf 17 (by decide)
    have e18 : vals 18 = _ := hf 18 (by decide)
    have e19 : vals 19 = _ := hf 19 (by decide)
    have e20 : vals 20 = _ := hf 20 (by decide)
    have e21 : vals 21 = _ := hf 21 (by decide)
    have e22 : vals 22 = _ := hf 22 (by decide)
    have e23 : vals 23 = _ := hf 23 (by decide)
    have e24 : vals 24 = _ := hf 24 (by decide)
    have e25 : vals 25 = _ := hf 25 (by decide)
    have e26 : vals 26 = _ := hf 26 (by decide)
    have e27 : vals 27 = _ := hf 27 (by decide)
    have e28 : vals 28 = _ := hf 28 (by decide)
    have e29 : vals 29 = _ := hf 29 (by decide)
    have e30 : vals 30 = _ := hf 30 (by decide)
    have e31 : vals 31 = _ := hf 31 (by decide)
    have e32 : vals 32 = _ := hf 32 (by decide)
    have e33 : vals 33 = _ := hf 33 (by decide)
    have e34 : vals 34 = _ := hf 34 (by decide)
    have e35 : vals 35 = _ := hf 35 (by decide)
    have e36 : vals 36 = _ := hf 36 (by decide)
    have e37 : vals 37 = _ := hf 37 (by decide)
    have e38 : vals 38 = _ := hf 38 (by decide)
    have e39 : vals 39 = _ := hf 39 (by decide)
    have e40 : vals 40 = _ := hf 40 (by decide)
    have e41 : vals 41 = _ := hf 41 (by decide)
    have e42 : vals 42 = _ := hf 42 (by decide)
    have e43 : vals 43 = _ := hf 43 (by decide)
    have e44 : vals 44 = _ := hf 44 (by decide)
    have e45 : vals 45 = _ := hf 45 (by decide)
    have e46 : vals 46 = _ := hf 46 (by decide)
    have e47 : vals 47 = _ := hf 47 (by decide)
    have e48 : vals 48 = _ := hf 48 (by decide)
    have e49 : vals 49 = _ := hf 49 (by decide)
    have e50 : vals 50 = _ := hf 50 (by decide)
    have e51 : vals 51 = _ := hf 51 (by decide)
    have e52 : vals 52 = _ := hf 52 (by decide)
    have e53 : vals 53 = _ := hf 53 (by decide)
    have e54 : vals 54 = _ := hf 54 (by decide)
    have e55 : vals 55 = _ := hf 55 (by decide)
    have e56 : vals 56 = _ := hf 56 (by decide)
    have e57 : vals 57 = _ := hf 57 (by decide)
    have e58 : vals 58 = _ := hf 58 (by decide)
    have e59 : vals 59 = _ := hf 59 (by decide)
    show Exit.then _ _ _ (fillG vals 0 (_ :: _ :: _ :: _ :: _ :: _ :: _ :: _ :: _ :: _ :: _ :: _ :: _ :: _ :: _ :: _ :: _ :: _ :: _ :: _ :: _ :: _ :: _ :: _ :: _ :: _ :: _ :: _ :: _ :: _ :: _ :: _ :: _ :: _ :: _ :: _ :: _ :: _ :: _ :: _ :: _ :: _ :: _ :: _ :: _ :: _ :: _ :: _ :: _ :: _ :: _ :: _ :: _ :: _ :: _ :: _ :: _ :: _ :: _ :: _ :: []) _) _
    simp only [fillG, Nat.zero_add, Nat.reduceAdd, e0, e1, e2, e3, e4, e5, e6, e7, e8, e9, e10, e11, e12, e13, e14, e15, e16, e17, e18, e19, e20, e21, e22, e23, e24, e25, e26, e27, e28, e29, e30, e31, e32, e33, e34, e35, e36, e37, e38, e39, e40, e41, e42, e43, e44, e45, e46, e47, e48, e49, e50, e51, e52, e53, e54, e55, e56, e57, e58, e59, Act.put, List.setIfInBounds_toArray, List.set_cons_succ, List.set_cons_zero]
    clear e0 e1 e2 e3 e4 e5 e6 e7 e8 e9 e10 e11 e12 e13 e14 e15 e16 e17 e18 e19 e20 e21 e22 e23 e24 e25 e26 e27 e28 e29 e30 e31 e32 e33 e34 e35 e36 e37 e38 e39 e40 e41 e42 e43 e44 e45 e46 e47 e48 e49 e50 e51 e52 e53 e54 e55 e56 e57 e58 e59 hf
    have hg := GN.trans (unhide HG) hJ
    clear hJ H1 H2 Hx Hy h0 h1 h2 h3 h4 h5 h6
    have Hg := hide hg
    clear hg
    go_wp2
    go_ret
    exact ⟨rfl, unhide Hg⟩
set_option maxRecDepth 100000 in
set_option maxHeartbeats 4000000 in
theorem same_d7 {x y : It} (hx : II x) (hy : II y) (h0 : Hid (x.pc = y.pc)) (h1 : Hid (x.bits = y.bits)) (h2 : Hid (x.inst = y.inst)) (h3 : Hid (x.size = y.size)) (h4 : Hid (x.cause = y.cause)) (h5 : Hid (x.tval = y.tval)) (h6 : Hid (x.nxt = y.nxt)) (h7 : Hid ([.int .u64 (x.m 112), .int .u64 (x.m 113), .int .u64 (x.m 114), .int .u64 (x.m 115), .int .i64 (x.m 116), .int .u64 (x.m 117)] ≠ ([.int .u64 (y.m 112), .int .u64 (y.m 113), .int .u64 (y.m 114), .int .u64 (y.m 115), .int .i64 (y.m 116), .int .u64 (y.m 117)] : List Value))) (w : World) :
    Calls Tryd.prog 24 #[.agg (itl x).toArray, .agg (itl y).toArray] w fun r w' => r = .returned (.bool false) ∧ GN w w' := by
  have J := ((Heap.nil w).new (itl x).toArray 38).new (itl y).toArray 61
  obtain ⟨k1, hk1⟩ : ∃ k, w.heap.size = k := ⟨_, rfl⟩
  simp only [World.size_alloc, hk1] at J
  have H := hide J
  have Hx := hide hx
  have Hy := hide hy
  clear J hx hy
  go_enter Tryd.func24, Tryd.ntmps24
  go_upto_region 1 with fail
  have J := unhide H
  obtain ⟨k2, hk2⟩ : ∃ k, k1 + 1 = k := ⟨_, rfl⟩
  rw [hk2] at J ⊢
  generalize (w.alloc (.cells (itl x).toArray 38)).alloc (.cells (itl y).toArray 61) = w2 at J ⊢
  have H1 := hide (Heap.heap J.f2)
  have H2 := hide (Heap.heap J)
  have HG := hide (gn_of_below J.below)
  clear H J hk1 hk2
  refine wp_list_O (fun w_ => GN w2 w_) GN (fun k_ v_ w_ => match k_ with
      | 0 => v_ = .pointer (some ⟨k1, 0 + 0, none⟩)
      | 1 => v_ = .int .u64 x.pc
      | 2 => v_ = .pointer (some ⟨k2, 0 + 0, none⟩)
      | 3 => v_ = .int .u64 y.pc
      | 4 => v_ = .bool true
      | 5 => v_ = .bool true
      | 6 => v_ = .pointer (some ⟨k1, 0 + 1, none⟩)
      | 7 => v_ = .int .u32 x.bits
      | 8 => v_ = .pointer (some ⟨k2, 0 + 1, none⟩)
      | 9 => v_ = .int .u32 y.bits
      | 10 => v_ = .bool true
      | 11 => v_ = .bool true
      | 12 => v_ = .bool true
      | 13 => v_ = .pointer (some ⟨k1, 0 + 2, none⟩)
      | 14 => v_ = .int .u32 x.inst
      | 15 => v_ = .pointer (some ⟨k2, 0 + 2, none⟩)
      | 16 => v_ = .int .u32 y.inst
      | 17 => v_ = .bool true
      | 18 => v_ = .bool true
      | 19 => v_ = .bool true
      | 20 => v_ = .pointer (some ⟨k1, 0 + 3, none⟩)
      | 21 => v_ = .int .i64 x.size
      | 22 => v_ = .pointer (some ⟨k2, 0 + 3, none⟩)
      | 23 => v_ = .int .i64 y.size
      | 24 => v_ = .bool true
      | 25 => v_ = .bool true
      | 26 => v_ = .bool true
      | 27 => v_ = .pointer (some ⟨k1, 0 + 4, none⟩)
      | 28 => v_ = .int .u64 x.cause
      | 29 => v_ = .pointer (some ⟨k2, 0 + 4, none⟩)
      | 30 => v_ = .int .u64 y.cause
      | 31 => v_ = .bool true
      | 32 => v_ = .bool true
      | 33 => v_ = .bool true
      | 34 => v_ = .pointer (some ⟨k1, 0 + 5, none⟩)
      | 35 => v_ = .int .u64 x.tval
      | 36 => v_ = .pointer (some ⟨k2, 0 + 5, none⟩)
      | 37 => v_ = .int .u64 y.tval
      | 38 => v_ = .bool true
      | 39 => v_ = .bool true
      | 40 => v_ = .bool true
      | 41 => v_ = .pointer (some ⟨k1, 0 + 6, none⟩)
      | 42 => v_ = .int .u64 x.nxt
      | 43 => v_ = .pointer (some ⟨k2, 0 + 6, none⟩)
      | 44 => v_ = .int .u64 y.nxt
      | 45 => v_ = .bool true
      | 46 => v_ = .bool true
      | 47 => v_ = .bool true
      | 48 => v_ = .pointer (some ⟨k1, 0 + 7, none⟩)
      | 49 => v_ = .agg #[.int .u64 (x.m 112), .int .u64 (x.m 113), .int .u64 (x.m 114), .int .u64 (x.m 115), .int .i64 (x.m 116), .int .u64 (x.m 117)]
      | 50 => v_ = .pointer (some ⟨k2, 0 + 7, none⟩)
      | 51 => v_ = .agg #[.int .u64 (y.m 112), .int .u64 (y.m 113), .int .u64 (y.m 114), .int .u64 (y.m 115)]
      | 52 => v_ = .pointer (some ⟨k2, 0 + 11, none⟩)
      | 53 => v_ = .int .i64 (y.m 116)
      | 54 => v_ = .pointer (some ⟨k2, 0 + 12, none⟩)
      | 55 => v_ = .int .u64 (y.m 117)
      | 56 => v_ = .agg #[.int .u64 (y.m 112), .int .u64 (y.m 113), .int .u64 (y.m 114), .int .u64 (y.m 115), .int .i64 (y.m 116), .int .u64 (y.m 117)]
      | 57 => v_ = .bool false
      | 58 => v_ = .bool false
      | _ => v_ = .bool false) ?_ ?_ GN.refl ?_ ?_
  · exact GN.refl w2
  · intro k_ v_ w_ w2_ h1 hg
    split at h1 <;> exact h1
  · intro vals
    show wpO _ _ _ _ _ _ 0 (_ :: _) _
    refine wpO_cons (oval (.pointer (some ⟨k1, 0 + 0, none⟩)) GN.refl fun w_ hJ hd => ?_) ?_
    · exact ⟨by kernel_rfl, by kernel_rfl, rfl⟩
    refine wpO_cons (oop (Instr.loadAt 22 (.pointer (some ⟨k1, 0 + 0, none⟩))) (.int .u64 x.pc) GN.refl fun w_ hJ hd => ?_) ?_
    · have e0 : vals 0 = _ := hd 0 (by decide)
      rw [e0]
      exact ⟨by kernel_rfl, by kernel_rfl, run_load1 (by kernel_rfl) (cell_blk (hJ.heap (unhide H1)) 0).1, rfl⟩
    refine wpO_cons (oval (.pointer (some ⟨k2, 0 + 0, none⟩)) GN.refl fun w_ hJ hd => ?_) ?_
    · exact ⟨by kernel_rfl, by kernel_rfl, rfl⟩
    refine wpO_cons (oop (Instr.loadAt 22 (.pointer (some ⟨k2, 0 + 0, none⟩))) (.int .u64 y.pc) GN.refl fun w_ hJ hd => ?_) ?_
    · have e2 : vals 2 = _ := hd 2 (by decide)
      rw [e2]
      exact ⟨by kernel_rfl, by kernel_rfl, run_load1 (by kernel_rfl) (cell_blk (hJ.heap (unhide H2)) 0).1, rfl⟩
    refine wpO_cons (oop (binOp .eql 22 (.int .u64 x.pc) (.int .u64 y.pc)) (.bool true) GN.refl fun w_ hJ hd => ?_) ?_
    · have e1 : vals 1 = _ := hd 1 (by decide)
      have e3 : vals 3 = _ := hd 3 (by decide)
      rw [e1, e3]
      exact ⟨by kernel_rfl, by kernel_rfl, run_eq22t (unhide h0) w_, rfl⟩
    refine wpO_cons (oval (.bool true) GN.refl fun w_ hJ hd => ?_) ?_
    · have e4 : vals 4 = _ := hd 4 (by decide)
      rw [e4]
      exact ⟨by kernel_rfl, by kernel_rfl, rfl⟩
    refine wpO_cons (oval (.pointer (some ⟨k1, 0 + 1, none⟩)) GN.refl fun w_ hJ hd => ?_) ?_
    · have e5 : vals 5 = _ := hd 5 (by decide)
      rw [e5]
      exact ⟨by kernel_rfl, by kernel_rfl, rfl⟩
    refine wpO_cons (oop (Instr.loadAt 33 (.pointer (some ⟨k1, 0 + 1, none⟩))) (.int .u32 x.bits) GN.refl fun w_ hJ hd => ?_) ?_
    · have e6 : vals 6 = _ := hd 6 (by decide)
      have e5 : vals 5 = _ := hd 5 (by decide)
      rw [e6, e5]
      exact ⟨by kernel_rfl, by kernel_rfl, run_load1 (by kernel_rfl) (cell_blk (hJ.heap (unhide H1)) 1).1, rfl⟩
    refine wpO_cons (oval (.pointer (some ⟨k2, 0 + 1, none⟩)) GN.refl fun w_ hJ hd => ?_) ?_
    · have e5 : vals 5 = _ := hd 5 (by decide)
      rw [e5]
      exact ⟨by kernel_rfl, by kernel_rfl, rfl⟩
    refine wpO_cons (oop (Instr.loadAt 33 (.pointer (some ⟨k2, 0 + 1, none⟩))) (.int .u32 y.bits) GN.refl fun w_ hJ hd => ?_) ?_
    · have e8 : vals 8 = _ := hd 8 (by decide)
      have e5 : vals 5 = _ := hd 5 (by decide)
      rw [e8, e5]
      exact ⟨by kernel_rfl, by kernel_rfl, run_load1 (by kernel_rfl) (cell_blk (hJ.heap (unhide H2)) 1).1, rfl⟩
    refine wpO_cons (oop (binOp .eql 33 (.int .u32 x.bits) (.int .u32 y.bits)) (.bool true) GN.refl fun w_ hJ hd => ?_) ?_
    · have e7 : vals 7 = _ := hd 7 (by decide)
      have e9 : vals 9 = _ := hd 9 (by decide)
      have e5 : vals 5 = _ := hd 5 (by decide)
      rw [e7, e9, e5]
      exact ⟨by kernel_rfl, by kernel_rfl, run_eq33t (unhide h1) w_, rfl⟩
    refine wpO_cons (oval (.bool true) GN.refl fun w_ hJ hd => ?_) ?_
    · have e5 : vals 5 = _ := hd 5 (by decide)
      have e10 : vals 10 = _ := hd 10 (by decide)
      rw [e5, e10]
      exact ⟨by kernel_rfl, by kernel_rfl, rfl⟩
    refine wpO_cons (oval (.bool true) GN.refl fun w_ hJ hd => ?_) ?_
    · have e11 : vals 11 = _ := hd 11 (by decide)
      rw [e11]
      exact ⟨by kernel_rfl, by kernel_rfl, rfl⟩
    refine wpO_cons (oval (.pointer (some ⟨k1, 0 + 2, none⟩)) GN.refl fun w_ hJ hd => ?_) ?_
    · have e12 : vals 12 = _ := hd 12 (by decide)
      rw [e12]
      exact ⟨by kernel_rfl, by kernel_rfl, rfl⟩
    refine wpO_cons (oop (Instr.loadAt 33 (.pointer (some ⟨k1, 0 + 2, none⟩))) (.int .u32 x.inst) GN.refl fun w_ hJ hd => ?_) ?_
    · have e13 : vals 13 = _ := hd 13 (by decide)
      have e12 : vals 12 = _ := hd 12 (by decide)
      rw [e13, e12]
      exact ⟨by kernel_rfl, by kernel_rfl, run_load1 (by kernel_rfl) (cell_blk (hJ.heap (unhide H1)) 2).1, rfl⟩
    refine wpO_cons (oval (.pointer (some ⟨k2, 0 + 2, none⟩)) GN.refl fun w_ hJ hd => ?_) ?_
    · have e12 : vals 12 = _ := hd 12 (by decide)
      rw [e12]
      exact ⟨by kernel_rfl, by kernel_rfl, rfl⟩
    refine wpO_cons (oop (Instr.loadAt 33 (.pointer (some ⟨k2, 0 + 2, none⟩))) (.int .u32 y.inst) GN.refl fun w_ hJ hd => ?_) ?_
    · have e15 : vals 15 = _ := hd 15 (by decide)
      have e12 : vals 12 = _ := hd 12 (by decide)
      rw [e15, e12]
      exact ⟨by kernel_rfl, by kernel_rfl, run_load1 (by kernel_rfl) (cell_blk (hJ.heap (unhide H2)) 2).1, rfl⟩
    refine wpO_cons (oop (binOp .eql 33 (.int .u32 x.inst) (.int .u32 y.inst)) (.bool true) GN.refl fun w_ hJ hd => ?_) ?_
    · have e14 : vals 14 = _ := hd 14 (by decide)
      have e16 : vals 16 = _ := hd 16 (by decide)
      have e12 : vals 12 = _ := hd 12 (by decide)
      rw [e14, e16, e12]
      exact ⟨by kernel_rfl, by kernel_rfl, run_eq33t (unhide h2) w_, rfl⟩
    refine wpO_cons (oval (.bool true) GN.refl fun w_ hJ hd => ?_) ?_
    · have e12 : vals 12 = _ := hd 12 (by decide)
      have e17 : vals 17 = _ := hd 17 (by decide)
      rw [e12, e17]
      exact ⟨by kernel_rfl, by kernel_rfl, rfl⟩
    refine wpO_cons (oval (.bool true) GN.refl fun w_ hJ hd => ?_) ?_
    · have e18 : vals 18 = _ := hd 18 (by decide)
      rw [e18]
      exact ⟨by kernel_rfl, by kernel_rfl, rfl⟩
    refine wpO_cons (oval (.pointer (some ⟨k1, 0 + 3, none⟩)) GN.refl fun w_ hJ hd => ?_) ?_
    · have e19 : vals 19 = _ := hd 19 (by decide)
      rw [e19]
      exact ⟨by kernel_rfl, by kernel_rfl, rfl⟩
    refine wpO_cons (oop (Instr.loadAt 3 (.pointer (some ⟨k1, 0 + 3, none⟩))) (.int .i64 x.size) GN.refl fun w_ hJ hd => ?_) ?_
    · have e20 : vals 20 = _ := hd 20 (by decide)
      have e19 : vals 19 = _ := hd 19 (by decide)
      rw [e20, e19]
      exact ⟨by kernel_rfl, by kernel_rfl, run_load1 (by kernel_rfl) (cell_blk (hJ.heap (unhide H1)) 3).1, rfl⟩
    refine wpO_cons (oval (.pointer (some ⟨k2, 0 + 3, none⟩)) GN.refl fun w_ hJ hd => ?_) ?_
    · have e19 : vals 19 = _ := hd 19 (by decide)
      rw [e19]
      exact ⟨by kernel_rfl, by kernel_rfl, rfl⟩
    refine wpO_cons (oop (Instr.loadAt 3 (.pointer (some ⟨k2, 0 + 3, none⟩))) (.int .i64 y.size) GN.refl fun w_ hJ hd => ?_) ?_
    · have e22 : vals 22 = _ := hd 22 (by decide)
      have e19 : vals 19 = _ := hd 19 (by decide)
      rw [e22, e19]
      exact ⟨by kernel_rfl, by kernel_rfl, run_load1 (by kernel_rfl) (cell_blk (hJ.heap (unhide H2)) 3).1, rfl⟩
    refine wpO_cons (oop (binOp .eql 3 (.int .i64 x.size) (.int .i64 y.size)) (.bool true) GN.refl fun w_ hJ hd => ?_) ?_
    · have e21 : vals 21 = _ := hd 21 (by decide)
      have e23 : vals 23 = _ := hd 23 (by decide)
      have e19 : vals 19 = _ := hd 19 (by decide)
      rw [e21, e23, e19]
      exact ⟨by kernel_rfl, by kernel_rfl, run_eq3t (unhide h3) w_, rfl⟩
    refine wpO_cons (oval (.bool true) GN.refl fun w_ hJ hd => ?_) ?_
    · have e19 : vals 19 = _ := hd 19 (by decide)
      have e24 : vals 24 = _ := hd 24 (by decide)
      rw [e19, e24]
      exact ⟨by kernel_rfl, by kernel_rfl, rfl⟩
    refine wpO_cons (oval (.bool true) GN.refl fun w_ hJ hd => ?_) ?_
    · have e25 : vals 25 = _ := hd 25 (by decide)
      rw [e25]
      exact ⟨by kernel_rfl, by kernel_rfl, rfl⟩
    refine wpO_cons (oval (.pointer (some ⟨k1, 0 + 4, none⟩)) GN.refl fun w_ hJ hd => ?_) ?_
    · have e26 : vals 26 = _ := hd 26 (by decide)
      rw [e26]
      exact ⟨by kernel_rfl, by kernel_rfl, rfl⟩
    refine wpO_cons (oop (Instr.loadAt 22 (.pointer (some ⟨k1, 0 + 4, none⟩))) (.int .u64 x.cause) GN.refl fun w_ hJ hd => ?_) ?_
    · have e27 : vals 27 = _ := hd 27 (by decide)
      have e26 : vals 26 = _ := hd 26 (by decide)
      rw [e27, e26]
      exact ⟨by kernel_rfl, by kernel_rfl, run_load1 (by kernel_rfl) (cell_blk (hJ.heap (unhide H1)) 4).1, rfl⟩
    refine wpO_cons (oval (.pointer (some ⟨k2, 0 + 4, none⟩)) GN.refl fun w_ hJ hd => ?_) ?_
    · have e26 : vals 26 = _ := hd 26 (by decide)
      rw [e26]
      exact ⟨by kernel_rfl, by kernel_rfl, rfl⟩
    refine wpO_cons (oop (Instr.loadAt 22 (.pointer (some ⟨k2, 0 + 4, none⟩))) (.int .u64 y.cause) GN.refl fun w_ hJ hd => ?_) ?_
    · have e29 : vals 29 = _ := hd 29 (by decide)
      have e26 : vals 26 = _ := hd 26 (by decide)
      rw [e29, e26]
      exact ⟨by kernel_rfl, by kernel_rfl, run_load1 (by kernel_rfl) (cell_blk (hJ.heap (unhide H2)) 4).1, rfl⟩
    refine wpO_cons (oop (binOp .eql 22 (.int .u64 x.cause) (.int .u64 y.cause)) (.bool true) GN.refl fun w_ hJ hd => ?_) ?_
    · have e28 : vals 28 = _ := hd 28 (by decide)
      have e30 : vals 30 = _ := hd 30 (by decide)
      have e26 : vals 26 = _ := hd 26 (by decide)
      rw [e28, e30, e26]
      exact ⟨by kernel_rfl, by kernel_rfl, run_eq22t (unhide h4) w_, rfl⟩
    refine wpO_cons (oval (.bool true) GN.refl fun w_ hJ hd => ?_) ?_
    · have e26 : vals 26 = _ := hd 26 (by decide)
      have e31 : vals 31 = _ := hd 31 (by decide)
      rw [e26, e31]
      exact ⟨by kernel_rfl, by kernel_rfl, rfl⟩
    refine wpO_cons (oval (.bool true) GN.refl fun w_ hJ hd => ?_) ?_
    · have e32 : vals 32 = _ := hd 32 (by decide)
      rw [e32]
      exact ⟨by kernel_rfl, by kernel_rfl, rfl⟩
    refine wpO_cons (oval (.pointer (some ⟨k1, 0 + 5, none⟩)) GN.refl fun w_ hJ hd => ?_) ?_
    · have e33 : vals 33 = _ := hd 33 (by decide)
      rw [e33]
      exact ⟨by kernel_rfl, by kernel_rfl, rfl⟩
    refine wpO_cons (oop (Instr.loadAt 22 (.pointer (some ⟨k1, 0 + 5, none⟩))) (.int .u64 x.tval) GN.refl fun w_ hJ hd => ?_) ?_
    · have e34 : vals 34 = _ := hd 34 (by decide)
      have e33 : vals 33 = _ := hd 33 (by decide)
      rw [e34, e33]
      exact ⟨by kernel_rfl, by kernel_rfl, run_load1 (by kernel_rfl) (cell_blk (hJ.heap (unhide H1)) 5).1, rfl⟩
    refine wpO_cons (oval (.pointer (some ⟨k2, 0 + 5, none⟩)) GN.refl fun w_ hJ hd => ?_) ?_
    · have e33 : vals 33 = _ := hd 33 (by decide)
      rw [e33]
      exact ⟨by kernel_rfl, by kernel_rfl, rfl⟩
    refine wpO_cons (oop (Instr.loadAt 22 (.pointer (some ⟨k2, 0 + 5, none⟩))) (.int .u64 y.tval) GN.refl fun w_ hJ hd => ?_) ?_
    · have e36 : vals 36 = _ := hd 36 (by decide)
      have e33 : vals 33 = _ := hd 33 (by decide)
      rw [e36, e33]
      exact ⟨by kernel_rfl, by kernel_rfl, run_load1 (by kernel_rfl) (cell_blk (hJ.heap (unhide H2)) 5).1, rfl⟩
    refine wpO_cons (oop (binOp .eql 22 (.int .u64 x.tval) (.int .u64 y.tval)) (.bool true) GN.refl fun w_ hJ hd => ?_) ?_
    · have e35 : vals 35 = _ := hd 35 (by decide)
      have e37 : vals 37 = _ := hd 37 (by decide)
      have e33 : vals 33 = _ := hd 33 (by decide)
      rw [e35, e37, e33]
      exact ⟨by kernel_rfl, by kernel_rfl, run_eq22t (unhide h5) w_, rfl⟩
    refine wpO_cons (oval (.bool true) GN.refl fun w_ hJ hd => ?_) ?_
    · have e33 : vals 33 = _ := hd 33 (by decide)
      have e38 : vals 38 = _ := hd 38 (by decide)
      rw [e33, e38]
      exact ⟨by kernel_rfl, by kernel_rfl, rfl⟩
    refine wpO_cons (oval (.bool true) GN.refl fun w_ hJ hd => ?_) ?_
    · have e39 : vals 39 = _ := hd 39 (by decide)
      rw [e39]
      exact ⟨by kernel_rfl, by kernel_rfl, rfl⟩
    refine wpO_cons (oval (.pointer (some ⟨k1, 0 + 6, none⟩)) GN.refl fun w_ hJ hd => ?_) ?_
    · have e40 : vals 40 = _ := hd 40 (by decide)
      rw [e40]
      exact ⟨by kernel_rfl, by kernel_rfl, rfl⟩
    refine wpO_cons (oop (Instr.loadAt 22 (.pointer (some ⟨k1, 0 + 6, none⟩))) (.int .u64 x.nxt) GN.refl fun w_ hJ hd => ?_) ?_
    · have e41 : vals 41 = _ := hd 41 (by decide)
      have e40 : vals 40 = _ := hd 40 (by decide)
      rw [e41, e40]
      exact ⟨by kernel_rfl, by kernel_rfl, run_load1 (by kernel_rfl) (cell_blk (hJ.heap (unhide H1)) 6).1, rfl⟩
    refine wpO_cons (oval (.pointer (some ⟨k2, 0 + 6, none⟩)) GN.refl fun w_ hJ hd => ?_) ?_
    · have e40 : vals 40 = _ := hd 40 (by decide)
      rw [e40]
      exact ⟨by kernel_rfl, by kernel_rfl, rfl⟩
    refine wpO_cons (oop (Instr.loadAt 22 (.pointer (some ⟨k2, 0 + 6, none⟩))) (.int .u64 y.nxt) GN.refl fun w_ hJ hd => ?_) ?_
    · have e43 : vals 43 = _ := hd 43 (by decide)
      have e40 : vals 40 = _ := hd 40 (by decide)
      rw [e43, e40]
      exact ⟨by kernel_rfl, by kernel_rfl, run_load1 (by kernel_rfl) (cell_blk (hJ.heap (unhide H2)) 6).1, rfl⟩
    refine wpO_cons (oop (binOp .eql 22 (.int .u64 x.nxt) (.int .u64 y.nxt)) (.bool true) GN.refl fun w_ hJ hd => ?_) ?_
    · have e42 : vals 42 = _ := hd 42 (by decide)
      have e44 : vals 44 = _ := hd 44 (by decide)
      have e40 : vals 40 = _ := hd 40 (by decide)
      rw [e42, e44, e40]
      exact ⟨by kernel_rfl, by kernel_rfl, run_eq22t (unhide h6) w_, rfl⟩
    refine wpO_cons (oval (.bool true) GN.refl fun w_ hJ hd => ?_) ?_
    · have e40 : vals 40 = _ := hd 40 (by decide)
      have e45 : vals 45 = _ := hd 45 (by decide)
      rw [e40, e45]
      exact ⟨by kernel_rfl, by kernel_rfl, rfl⟩
    refine wpO_cons (oval (.bool true) GN.refl fun w_ hJ hd => ?_) ?_
    · have e46 : vals 46 = _ := hd 46 (by decide)
      rw [e46]
      exact ⟨by kernel_rfl, by kernel_rfl, rfl⟩
    refine wpO_cons (oval (.pointer (some ⟨k1, 0 + 7, none⟩)) GN.refl fun w_ hJ hd => ?_) ?_
    · have e47 : vals 47 = _ := hd 47 (by decide)
      rw [e47]
      exact ⟨by kernel_rfl, by kernel_rfl, rfl⟩
    refine wpO_cons (oop (Instr.loadAt 36 (.pointer (some ⟨k1, 0 + 7, none⟩))) (.agg #[.int .u64 (x.m 112), .int .u64 (x.m 113), .int .u64 (x.m 114), .int .u64 (x.m 115), .int .i64 (x.m 116), .int .u64 (x.m 117)]) GN.refl fun w_ hJ hd => ?_) ?_
    · have e48 : vals 48 = _ := hd 48 (by decide)
      have e47 : vals 47 = _ := hd 47 (by decide)
      rw [e48, e47]
      exact ⟨by kernel_rfl, by kernel_rfl, run_loadAt_mid w_ k1 (0 + 7) 36 [.int .u64 (x.m 112), .int .u64 (x.m 113), .int .u64 (x.m 114), .int .u64 (x.m 115), .int .i64 (x.m 116), .int .u64 (x.m 117)] _ (range_blk (hJ.heap (unhide H1)) 7 6 _ rfl) Tryd.underlying36 rfl (by kernel_rfl), rfl⟩
    refine wpO_cons (oval (.pointer (some ⟨k2, 0 + 7, none⟩)) GN.refl fun w_ hJ hd => ?_) ?_
    · have e47 : vals 47 = _ := hd 47 (by decide)
      rw [e47]
      exact ⟨by kernel_rfl, by kernel_rfl, rfl⟩
    refine wpO_cons (oop (Instr.loadAt 34 (.pointer (some ⟨k2, 0 + 7, none⟩))) (.agg #[.int .u64 (y.m 112), .int .u64 (y.m 113), .int .u64 (y.m 114), .int .u64 (y.m 115)]) GN.refl fun w_ hJ hd => ?_) ?_
    · have e50 : vals 50 = _ := hd 50 (by decide)
      have e47 : vals 47 = _ := hd 47 (by decide)
      rw [e50, e47]
      exact ⟨by kernel_rfl, by kernel_rfl, run_loadAt_mid w_ k2 (0 + 7) 34 [.int .u64 (y.m 112), .int .u64 (y.m 113), .int .u64 (y.m 114), .int .u64 (y.m 115)] _ (range_blk (hJ.heap (unhide H2)) 7 4 _ rfl) Tryd.underlying34 rfl (by kernel_rfl), rfl⟩
    refine wpO_cons (oval (.pointer (some ⟨k2, 0 + 11, none⟩)) GN.refl fun w_ hJ hd => ?_) ?_
    · have e47 : vals 47 = _ := hd 47 (by decide)
      rw [e47]
      exact ⟨by kernel_rfl, by kernel_rfl, rfl⟩
    refine wpO_cons (oop (Instr.loadAt 3 (.pointer (some ⟨k2, 0 + 11, none⟩))) (.int .i64 (y.m 116)) GN.refl fun w_ hJ hd => ?_) ?_
    · have e52 : vals 52 = _ := hd 52 (by decide)
      have e47 : vals 47 = _ := hd 47 (by decide)
      rw [e52, e47]
      exact ⟨by kernel_rfl, by kernel_rfl, run_load1 (by kernel_rfl) (cell_blk (hJ.heap (unhide H2)) 11).1, rfl⟩
    refine wpO_cons (oval (.pointer (some ⟨k2, 0 + 12, none⟩)) GN.refl fun w_ hJ hd => ?_) ?_
    · have e47 : vals 47 = _ := hd 47 (by decide)
      rw [e47]
      exact ⟨by kernel_rfl, by kernel_rfl, rfl⟩
    refine wpO_cons (oop (Instr.loadAt 22 (.pointer (some ⟨k2, 0 + 12, none⟩))) (.int .u64 (y.m 117)) GN.refl fun w_ hJ hd => ?_) ?_
    · have e54 : vals 54 = _ := hd 54 (by decide)
      have e47 : vals 47 = _ := hd 47 (by decide)
      rw [e54, e47]
      exact ⟨by kernel_rfl, by kernel_rfl, run_load1 (by kernel_rfl) (cell_blk (hJ.heap (unhide H2)) 12).1, rfl⟩
    refine wpO_cons (oval (.agg #[.int .u64 (y.m 112), .int .u64 (y.m 113), .int .u64 (y.m 114), .int .u64 (y.m 115), .int .i64 (y.m 116), .int .u64 (y.m 117)]) GN.refl fun w_ hJ hd => ?_) ?_
    · have e51 : vals 51 = _ := hd 51 (by decide)
      have e53 : vals 53 = _ := hd 53 (by decide)
      have e55 : vals 55 = _ := hd 55 (by decide)
      have e47 : vals 47 = _ := hd 47 (by decide)
      rw [e51, e53, e55, e47]
      exact ⟨by kernel_rfl, by kernel_rfl, rfl⟩
    refine wpO_cons (oop ((do eqGuard .eql 36 (.tmp 54) (.tmp 61) (.agg #[.int .u64 (x.m 112), .int .u64 (x.m 113), .int .u64 (x.m 114), .int .u64 (x.m 115), .int .i64 (x.m 116), .int .u64 (x.m 117)]) (.agg #[.int .u64 (y.m 112), .int .u64 (y.m 113), .int .u64 (y.m 114), .int .u64 (y.m 115), .int .i64 (y.m 116), .int .u64 (y.m 117)]); binOp .eql 36 (.agg #[.int .u64 (x.m 112), .int .u64 (x.m 113), .int .u64 (x.m 114), .int .u64 (x.m 115), .int .i64 (x.m 116), .int .u64 (x.m 117)]) (.agg #[.int .u64 (y.m 112), .int .u64 (y.m 113), .int .u64 (y.m 114), .int .u64 (y.m 115), .int .i64 (y.m 116), .int .u64 (y.m 117)]))) (.bool false) GN.refl fun w_ hJ hd => ?_) ?_
    · have e49 : vals 49 = _ := hd 49 (by decide)
      have e56 : vals 56 = _ := hd 56 (by decide)
      have e47 : vals 47 = _ := hd 47 (by decide)
      rw [e49, e56, e47]
      exact ⟨by kernel_rfl, by kernel_rfl, eqg36 (eql36f (unhide Hx) (unhide Hy) (unhide h7) w_), rfl⟩
    refine wpO_cons (oval (.bool false) GN.refl fun w_ hJ hd => ?_) ?_
    · have e47 : vals 47 = _ := hd 47 (by decide)
      have e57 : vals 57 = _ := hd 57 (by decide)
      rw [e47, e57]
      exact ⟨by kernel_rfl, by kernel_rfl, rfl⟩
    refine wpO_cons (oval (.bool false) GN.refl fun w_ hJ hd => ?_) wpO_nil
    · have e58 : vals 58 = _ := hd 58 (by decide)
      rw [e58]
      exact ⟨by kernel_rfl, by kernel_rfl, rfl⟩
  · intro vals w_ hJ hf
    have e0 : vals 0 = _ := hf 0 (by decide)
    have e1 : vals 1 = _ := hf 1 (by decide)
    have e2 : vals 2 = _ := hf 2 (by decide)
    have e3 : vals 3 = _ := hf 3 (by decide)
    have e4 : vals 4 = _ := hf 4 (by decide)
    have e5 : vals 5 = _ := hf 5 (by decide)
    have e6 : vals 6 = _ := hf 6 (by decide)
    have e7 : vals 7 = _ := hf 7 (by decide)
    have e8 : vals 8 = _ := hf 8 (by decide)
    have e9 : vals 9 = _ := hf 9 (by decide)
    have e10 : vals 10 = _ := hf 10 (by decide)
    have e11 : vals 11 = _ := hf 11 (by decide)
    have e12 : vals 12 = _ := hf 12 (by decide)
    have e13 : vals 13 = _ := hf 13 (by decide)
    have e14 : vals 14 = _ := hf 14 (by decide)
    have e15 : vals 15 = _ := hf 15 (by decide)
    have e16 : vals 16 = _ := hf 16 (by decide)
    have e17 : vals 17 = _ := hf 17 (by decide)
    have e18 : vals 18 = _ := hf 18 (by decide)
    have e19 : vals 19 = _ := hf 19 (by decide)
    have e20 : vals 20 = _ := hf 20 (by decide)
    have e21 : vals 21 = _ := hf 21 (by decide)
    have e22 : vals 22 = _ := hf 22 (by decide)
    have e23 : vals 23 = _ := hf 23 (by decide)
    have e24 : vals 24 = _ := hf 24 (by decide)
    have e25 : vals 25 = _ := hf 25 (by decide)
    have e26 : vals 26 = _ := hf 26 (by decide)
    have e27 : vals 27 = _ := hf 27 (by decide)
    have e28 : vals 28 = _ := hf 28 (by decide)
    have e29 : vals 29 = _ := hf 29 (by decide)
    have e30 : vals 30 = _ := hf 30 (by decide)
    have e31 : vals 31 = _ := hf 31 (by decide)
    have e32 : vals 32 = _ := hf 32 (by decide)
    have e33 : vals 33 = _ := hf 33 (by decide)
    have e34 : vals 34 = _ := hf 34 (by decide)
    have e35 : vals 35 = _ := hf 35 (by decide)
    have e36 : vals 36 = _ := hf 36 (by decide)
    have e37 : vals 37 = _ := hf 37 (by decide)
    have e38 : vals 38 = _ := hf 38 (by decide)
    have e39 : vals 39 = _ := hf 39 (by decide)
    have e40 : vals 40 = _ := hf 40 (by decide)
    have e41 : vals 41 = _ := hf 41 (by decide)
    have e42 : vals 42 = _ := hf 42 (by decide)
    have e43 : vals 43 = _ := hf 43 (by decide)
    have e44 : vals 44 = _ := hf 44 (by decide)
    have e45 : vals 45 = _ := hf 45 (by decide)
    have e46 : vals 46 = _ := hf 46 (by decide)
    have e47 : vals 47 = _ := hf 47 (by decide)
    have e48 : vals 48 = _ := hf 48 (by decide)
    have e49 : vals 49 = _ := hf 49 (by decide)
    have e50 : vals 50 = _ := hf 50 (by decide)
    have e51 : vals 51 = _ := hf 51 (by decide)
    have e52 : vals 52 = _ := hf 52 (by decide)
    have e53 : vals 53 = _ := hf 53 (by decide)
    have e54 : vals 54 = _ := hf 54 (by decide)
    have e55 : vals 55 = _ := hf 55 (by decide)
    have e56 : vals 56 = _ := hf 56 (by decide)
    have e57 : vals 57 = _ := hf 57 (by decide)
    have e58 : vals 58 = _ := hf 58 (by decide)
    have e59 : vals 59 = _ := hf 59 (by decide)
    show Exit.then _ _ _ (fillG vals 0 (_ :: _ :: _ :: _ :: _ :: _ :: _ :: _ :: _ :: _ :: _ :: _ :: _ :: _ :: _ :: _ :: _ :: _ :: _ :: _ :: _ :: _ :: _ :: _ :: _ :: _ :: _ :: _ :: _ :: _ :: _ :: _ :: _ :: _ :: _ :: _ :: _ :: _ :: _ :: _ :: _ :: _ :: _ :: _ :: _ :: _ :: _ :: _ :: _ :: _ :: _ :: _ :: _ :: _ :: _ :: _ :: _ :: _ :: _ :: _ :: []) _) _
    simp only [fillG, Nat.zero_add, Nat.reduceAdd, e0, e1, e2, e3, e4, e5, e6, e7, e8, e9, e10, e11, e12, e13, e14, e15, e16, e17, e18, e19, e20, e21, e22, e23, e24, e25, e26, e27, e28, e29, e30, e31, e32, e33, e34, e35, e36, e37, e38, e39, e40, e41, e42, e43, e44, e45, e46, e47, e48, e49, e50, e51, e52, e53, e54, e55, e56, e57, e58, e59, Act.put, List.setIfInBounds_toArray, List.set_cons_succ, List.set_cons_zero]
    clear e0 e1 e2 e3 e4 e5 e6 e7 e8 e9 e10 e11 e12 e13 e14 e15 e16 e17 e18 e19 e20 e21 e22 e23 e24 e25 e26 e27 e28 e29 e30 e31 e32 e33 e34 e35 e36 e37 e38 e39 e40 e41 e42 e43 e44 e45 e46 e47 e48 e49 e50 e51 e52 e53 e54 e55 e56 e57 e58 e59 hf
    have hg := GN.trans (unhide HG) hJ
    clear hJ H1 H2 Hx Hy h0 h1 h2 h3 h4 h5 h6 h7
    have Hg := hide hg
    clear hg
    go_wp2
    go_ret
    exact ⟨rfl, unhide Hg⟩
set_option maxRecDepth 100000 in
set_option maxHeartbeats 4000000 in
theorem same_d8 {x y : It} (hx : II x) (hy : II y) (h0 : Hid (x.pc = y.pc)) (h1 : Hid (x.bits = y.bits)) (h2 : Hid (x.inst = y.inst)) (h3 : Hid (x.size = y.size)) (h4 : Hid (x.cause = y.cause)) (h5 : Hid (x.tval = y.tval)) (h6 : Hid (x.nxt = y.nxt)) (h7 : Hid ([.int .u64 (x.m 112), .int .u64 (x.m 113), .int .u64 (x.m 114), .int .u64 (x.m 115), .int .i64 (x.m 116), .int .u64 (x.m 117)] = ([.int .u64 (y.m 112), .int .u64 (y.m 113), .int .u64 (y.m 114), .int .u64 (y.m 115), .int .i64 (y.m 116), .int .u64 (y.m 117)] : List Value))) (w : World) :
    Calls Tryd.prog 24 #[.agg (itl x).toArray, .agg (itl y).toArray] w fun r w' => r = .returned (.bool true) ∧ GN w w' := by
  have J := ((Heap.nil w).new (itl x).toArray 38).new (itl y).toArray 61
  obtain ⟨k1, hk1⟩ : ∃ k, w.heap.size = k := ⟨_, rfl⟩
  simp only [World.size_alloc, hk1] at J
  have H := hide J
  have Hx := hide hx
  have Hy := hide hy
  clear J hx hy
  go_enter Tryd.func24, Tryd.ntmps24
  go_upto_region 1 with fail
  have J := unhide H
  obtain ⟨k2, hk2⟩ : ∃ k, k1 + 1 = k := ⟨_, rfl⟩
  rw [hk2] at J ⊢
  generalize (w.alloc (.cells (itl x).toArray 38)).alloc (.cells (itl y).toArray 61) = w2 at J ⊢
  have H1 := hide (Heap.heap J.f2)
  have H2 := hide (Heap.heap J)
  have HG := hide (gn_of_below J.below)
  clear H J hk1 hk2
  refine wp_list_O (fun w_ => GN w2 w_) GN (fun k_ v_ w_ => match k_ with
      | 0 => v_ = .pointer (some ⟨k1, 0 + 0, none⟩)
      | 1 => v_ = .int .u64 x.pc
      | 2 => v_ = .pointer (some ⟨k2, 0 + 0, none⟩)
      | 3 => v_ = .int .u64 y.pc
      | 4 => v_ = .bool true
      | 5 => v_ = .bool true
      | 6 => v_ = .pointer (some ⟨k1, 0 + 1, none⟩)
      | 7 => v_ = .int .u32 x.bits
      | 8 => v_ = .pointer (some ⟨k2, 0 + 1, none⟩)
      | 9 => v_ = .int .u32 y.bits
      | 10 => v_ = .bool true
      | 11 => v_ = .bool true
      | 12 => v_ = .bool true
      | 13 => v_ = .pointer (some ⟨k1, 0 + 2, none⟩)
      | 14 => v_ = .int .u32 x.inst
      | 15 => v_ = .pointer (some ⟨k2, 0 + 2, none⟩)
      | 16 => v_ = .int .u32 y.inst
      | 17 => v_ = .bool true
      | 18 => v_ = .bool true
      | 19 => v_ = .bool true
      | 20 => v_ = .pointer (some ⟨k1, 0 + 3, none⟩)
      | 21 => v_ = .int .i64 x.size
      | 22 => v_ = .pointer (some ⟨k2, 0 + 3, none⟩)
      | 23 => v_ = .int .i64 y.size
      | 24 => v_ = .bool true
      | 25 => v_ = .bool true
      | 26 => v_ = .bool true
      | 27 => v_ = .pointer (some ⟨k1, 0 + 4, none⟩)
      | 28 => v_ = .int .u64 x.cause
      | 29 => v_ = .pointer (some ⟨k2, 0 + 4, none⟩)
      | 30 => v_ = .int .u64 y.cause
      | 31 => v_ = .bool true
      | 32 => v_ = .bool true
      | 33 => v_ = .bool true
      | 34 => v_ = .pointer (some ⟨k1, 0 + 5, none⟩)
      | 35 => v_ = .int .u64 x.tval
      | 36 => v_ = .pointer (some ⟨k2, 0 + 5, none⟩)
      | 37 => v_ = .int .u64 y.tval
      | 38 => v_ = .bool true
      | 39 => v_ = .bool true
      | 40 => v_ = .bool true
      | 41 => v_ = .pointer (some ⟨k1, 0 + 6, none⟩)
      | 42 => v_ = .int .u64 x.nxt
      | 43 => v_ = .pointer (some ⟨k2, 0 + 6, none⟩)
      | 44 => v_ = .int .u64 y.nxt
      | 45 => v_ = .bool true
      | 46 => v_ = .bool true
      | 47 => v_ = .bool true
      | 48 => v_ = .pointer (some ⟨k1, 0 + 7, none⟩)
      | 49 => v_ = .agg #[.int .u64 (x.m 112), .int .u64 (x.m 113), .int .u64 (x.m 114), .int .u64 (x.m 115), .int .i64 (x.m 116), .int .u64 (x.m 117)]
      | 50 => v_ = .pointer (some ⟨k2, 0 + 7, none⟩)
      | 51 => v_ = .agg #[.int .u64 (y.m 112), .int .u64 (y.m 113), .int .u64 (y.m 114), .int .u64 (y.m 115)]
      | 52 => v_ = .pointer (some ⟨k2, 0 + 11, none⟩)
      | 53 => v_ = .int .i64 (y.m 116)
      | 54 => v_ = .pointer (some ⟨k2, 0 + 12, none⟩)
      | 55 => v_ = .int .u64 (y.m 117)
      | 56 => v_ = .agg #[.int .u64 (y.m 112), .int .u64 (y.m 113), .int .u64 (y.m 114), .int .u64 (y.m 115), .int .i64 (y.m 116), .int .u64 (y.m 117)]
      | 57 => v_ = .bool true
      | 58 => v_ = .bool true
      | _ => v_ = .bool true) ?_ ?_ GN.refl ?_ ?_
  · exact GN.refl w2
  · intro k_ v_ w_ w2_ h1 hg
    split at h1 <;> exact h1
  · intro vals
    show wpO _ _ _ _ _ _ 0 (_ :: _) _
    refine wpO_cons (oval (.pointer (some ⟨k1, 0 + 0, none⟩)) GN.refl fun w_ hJ hd => ?_) ?_
    · exact ⟨by kernel_rfl, by kernel_rfl, rfl⟩
    refine wpO_cons (oop (Instr.loadAt 22 (.pointer (some ⟨k1, 0 + 0, none⟩))) (.int .u64 x.pc) GN.refl fun w_ hJ hd => ?_) ?_
    · have e0 : vals 0 = _ := hd 0 (by decide)
      rw [e0]
      exact ⟨by kernel_rfl, by kernel_rfl, run_load1 (by kernel_rfl) (cell_blk (hJ.heap (unhide H1)) 0).1, rfl⟩
    refine wpO_cons (oval (.pointer (some ⟨k2, 0 + 0, none⟩)) GN.refl fun w_ hJ hd => ?_) ?_
    · exact ⟨by kernel_rfl, by kernel_rfl, rfl⟩
    refine wpO_cons (oop (Instr.loadAt 22 (.pointer (some ⟨k2, 0 + 0, none⟩))) (.int .u64 y.pc) GN.refl fun w_ hJ hd => ?_) ?_
    · have e2 : vals 2 = _ := hd 2 (by decide)
      rw [e2]
      exact ⟨by kernel_rfl, by kernel_rfl, run_load1 (by kernel_rfl) (cell_blk (hJ.heap (unhide H2)) 0).1, rfl⟩
    refine wpO_cons (oop (binOp .eql 22 (.int .u64 x.pc) (.int .u64 y.pc)) (.bool true) GN.refl fun w_ hJ hd => ?_) ?_
    · have e1 : vals 1 = _ := hd 1 (by decide)
      have e3 : vals 3 = _ := hd 3 (by decide)
      rw [e1, e3]
      exact ⟨by kernel_rfl, by kernel_rfl, run_eq22t (unhide h0) w_, rfl⟩
    refine wpO_cons (oval (.bool true) GN.refl fun w_ hJ hd => ?_) ?_
    · have e4 : vals 4 = _ := hd 4 (by decide)
      rw [e4]
      exact ⟨by kernel_rfl, by kernel_rfl, rfl⟩
    refine wpO_cons (oval (.pointer (some ⟨k1, 0 + 1, none⟩)) GN.refl fun w_ hJ hd => ?_) ?_
    · have e5 : vals 5 = _ := hd 5 (by decide)
      rw [e5]
      exact ⟨by kernel_rfl, by kernel_rfl, rfl⟩
    refine wpO_cons (oop (Instr.loadAt 33 (.pointer (some ⟨k1, 0 + 1, none⟩))) (.int .u32 x.bits) GN.refl fun w_ hJ hd => ?_) ?_
    · have e6 : vals 6 = _ := hd 6 (by decide)
      have e5 : vals 5 = _ := hd 5 (by decide)
      rw [e6, e5]
      exact ⟨by kernel_rfl, by kernel_rfl, run_load1 (by kernel_rfl) (cell_blk (hJ.heap (unhide H1)) 1).1, rfl⟩
    refine wpO_cons (oval (.pointer (some ⟨k2, 0 + 1, none⟩)) GN.refl fun w_ hJ hd => ?_) ?_
    · have e5 : vals 5 = _ := hd 5 (by decide)
      rw [e5]
      exact ⟨by kernel_rfl, by kernel_rfl, rfl⟩
    refine wpO_cons (oop (Instr.loadAt 33 (.pointer (some ⟨k2, 0 + 1, none⟩))) (.int .u32 y.bits) GN.refl fun w_ hJ hd => ?_) ?_
    · have e8 : vals 8 = _ := hd 8 (by decide)
      have e5 : vals 5 = _ := hd 5 (by decide)
      rw [e8, e5]
      exact ⟨by kernel_rfl, by kernel_rfl, run_load1 (by kernel_rfl) (cell_blk (hJ.heap (unhide H2)) 1).1, rfl⟩
    refine wpO_cons (oop (binOp .eql 33 (.int .u32 x.bits) (.int .u32 y.bits)) (.bool true) GN.refl fun w_ hJ hd => ?_) ?_
    · have e7 : vals 7 = _ := hd 7 (by decide)
      have e9 : vals 9 = _ := hd 9 (by decide)
      have e5 : vals 5 = _ := hd 5 (by decide)
      rw [e7, e9, e5]
      exact ⟨by kernel_rfl, by kernel_rfl, run_eq33t (unhide h1) w_, rfl⟩
    refine wpO_cons (oval (.bool true) GN.refl fun w_ hJ hd => ?_) ?_
    · have e5 : vals 5 = _ := hd 5 (by decide)
      have e10 : vals 10 = _ := hd 10 (by decide)
      rw [e5, e10]
      exact ⟨by kernel_rfl, by kernel_rfl, rfl⟩
    refine wpO_cons (oval (.bool true) GN.refl fun w_ hJ hd => ?_) ?_
    · have e11 : vals 11 = _ := hd 11 (by decide)
      rw [e11]
      exact ⟨by kernel_rfl, by kernel_rfl, rfl⟩
    refine wpO_cons (oval (.pointer (some ⟨k1, 0 + 2, none⟩)) GN.refl fun w_ hJ hd => ?_) ?_
    · have e12 : vals 12 = _ := hd 12 (by decide)
      rw [e12]
      exact ⟨by kernel_rfl, by kernel_rfl, rfl⟩
    refine wpO_cons (oop (Instr.loadAt 33 (.pointer (some ⟨k1, 0 + 2, none⟩))) (.int .u32 x.inst) GN.refl fun w_ hJ hd => ?_) ?_
    · have e13 : vals 13 = _ := hd 13 (by decide)
      have e12 : vals 12 = _ := hd 12 (by decide)
      rw [e13, e12]
      exact ⟨by kernel_rfl, by kernel_rfl, run_load1 (by kernel_rfl) (cell_blk (hJ.heap (unhide H1)) 2).1, rfl⟩
    refine wpO_cons (oval (.pointer (some ⟨k2, 0 + 2, none⟩)) GN.refl fun w_ hJ hd => ?_) ?_
    · have e12 : vals 12 = _ := hd 12 (by decide)
      rw [e12]
      exact ⟨by kernel_rfl, by kernel_rfl, rfl⟩
    refine wpO_cons (oop (Instr.loadAt 33 (.pointer (some ⟨k2, 0 + 2, none⟩))) (.int .u32 y.inst) GN.refl fun w_ hJ hd => ?_) ?_
    · have e15 : vals 15 = _ := hd 15 (by decide)
      have e12 : vals 12 = _ := hd 12 (by decide)
      rw [e15, e12]
      exact ⟨by kernel_rfl, by kernel_rfl, run_load1 (by kernel_rfl) (cell_blk (hJ.heap (unhide H2)) 2).1, rfl⟩
    refine wpO_cons (oop (binOp .eql 33 (.int .u32 x.inst) (.int .u32 y.inst)) (.bool true) GN.refl fun w_ hJ hd => ?_) ?_
    · have e14 : vals 14 = _ := hd 14 (by decide)
      have e16 : vals 16 = _ := hd 16 (by decide)
      have e12 : vals 12 = _ := hd 12 (by decide)
      rw [e14, e16, e12]
      exact ⟨by kernel_rfl, by kernel_rfl, run_eq33t (unhide h2) w_, rfl⟩
    refine wpO_cons (oval (.bool true) GN.refl fun w_ hJ hd => ?_) ?_
    · have e12 : vals 12 = _ := hd 12 (by decide)
      have e17 : vals 17 = _ := hd 17 (by decide)
      rw [e12, e17]
      exact ⟨by kernel_rfl, by kernel_rfl, rfl⟩
    refine wpO_cons (oval (.bool true) GN.refl fun w_ hJ hd => ?_) ?_
    · have e18 : vals 18 = _ := hd 18 (by decide)
      rw [e18]
      exact ⟨by kernel_rfl, by kernel_rfl, rfl⟩
    refine wpO_cons (oval (.pointer (some ⟨k1, 0 + 3, none⟩)) GN.refl fun w_ hJ hd => ?_) ?_
    · have e19 : vals 19 = _ := hd 19 (by decide)
      rw [e19]
      exact ⟨by kernel_rfl, by kernel_rfl, rfl⟩
    refine wpO_cons (oop (Instr.loadAt 3 (.pointer (some ⟨k1, 0 + 3, none⟩))) (.int .i64 x.size) GN.refl fun w_ hJ hd => ?_) ?_
    · have e20 : vals 20 = _ := hd 20 (by decide)
      have e19 : vals 19 = _ := hd 19 (by decide)
      rw [e20, e19]
      exact ⟨by kernel_rfl, by kernel_rfl, run_load1 (by kernel_rfl) (cell_blk (hJ.heap (unhide H1)) 3).1, rfl⟩
    refine wpO_cons (oval (.pointer (some ⟨k2, 0 + 3, none⟩)) GN.refl fun w_ hJ hd => ?_) ?_
    · have e19 : vals 19 = _ := hd 19 (by decide)
      rw [e19]
      exact ⟨by kernel_rfl, by kernel_rfl, rfl⟩
    refine wpO_cons (oop (Instr.loadAt 3 (.pointer (some ⟨k2, 0 + 3, none⟩))) (.int .i64 y.size) GN.refl fun w_ hJ hd => ?_) ?_
    · have e22 : vals 22 = _ := hd 22 (by decide)
      have e19 : vals 19 = _ := hd 19 (by decide)
      rw [e22, e19]
      exact ⟨by kernel_rfl, by kernel_rfl, run_load1 (by kernel_rfl) (cell_blk (hJ.heap (unhide H2)) 3).1, rfl⟩
    refine wpO_cons (oop (binOp .eql 3 (.int .i64 x.size) (.int .i64 y.size)) (.bool true) GN.refl fun w_ hJ hd => ?_) ?_
    · have e21 : vals 21 = _ := hd 21 (by decide)
      have e23 : vals 23 = _ := hd 23 (by decide)
      have e19 : vals 19 = _ := hd 19 (by decide)
      rw [e21, e23, e19]
      exact ⟨by kernel_rfl, by kernel_rfl, run_eq3t (unhide h3) w_, rfl⟩
    refine wpO_cons (oval (.bool true) GN.refl fun w_ hJ hd => ?_) ?_
    · have e19 : vals 19 = _ := hd 19 (by decide)
      have e24 : vals 24 = _ := hd 24 (by decide)
      rw [e19, e24]
      exact ⟨by kernel_rfl, by kernel_rfl, rfl⟩
    refine wpO_cons (oval (.bool true) GN.refl fun w_ hJ hd => ?_) ?_
    · have e25 : vals 25 = _ := hd 25 (by decide)
      rw [e25]
      exact ⟨by kernel_rfl, by kernel_rfl, rfl⟩
    refine wpO_cons (oval (.pointer (some ⟨k1, 0 + 4, none⟩)) GN.refl fun w_ hJ hd => ?_) ?_
    · have e26 : vals 26 = _ := hd 26 (by decide)
      rw [e26]
      exact ⟨by kernel_rfl, by kernel_rfl, rfl⟩
    refine wpO_cons (oop (Instr.loadAt 22 (.pointer (some ⟨k1, 0 + 4, none⟩))) (.int .u64 x.cause) GN.refl fun w_ hJ hd => ?_) ?_
    · have e27 : vals 27 = _ := hd 27 (by decide)
      have e26 : vals 26 = _ := hd 26 (by decide)
      rw [e27, e26]
      exact ⟨by kernel_rfl, by kernel_rfl, run_load1 (by kernel_rfl) (cell_blk (hJ.heap (unhide H1)) 4).1, rfl⟩
    refine wpO_cons (oval (.pointer (some ⟨k2, 0 + 4, none⟩)) GN.refl fun w_ hJ hd => ?_) ?_
    · have e26 : vals 26 = _ := hd 26 (by decide)
      rw [e26]
      exact ⟨by kernel_rfl, by kernel_rfl, rfl⟩
    refine wpO_cons (oop (Instr.loadAt 22 (.pointer (some ⟨k2, 0 + 4, none⟩))) (.int .u64 y.cause) GN.refl fun w_ hJ hd => ?_) ?_
    · have e29 : vals 29 = _ := hd 29 (by decide)
      have e26 : vals 26 = _ := hd 26 (by decide)
      rw [e29, e26]
      exact ⟨by kernel_rfl, by kernel_rfl, run_load1 (by kernel_rfl) (cell_blk (hJ.heap (unhide H2)) 4).1, rfl⟩
    refine wpO_cons (oop (binOp .eql 22 (.int .u64 x.cause) (.int .u64 y.cause)) (.bool true) GN.refl fun w_ hJ hd => ?_) ?_
    · have e28 : vals 28 = _ := hd 28 (by decide)
      have e30 : vals 30 = _ := hd 30 (by decide)
      have e26 : vals 26 = _ := hd 26 (by decide)
      rw [e28, e30, e26]
      exact ⟨by kernel_rfl, by kernel_rfl, run_eq22t (unhide h4) w_, rfl⟩
    refine wpO_cons (oval (.bool true) GN.refl fun w_ hJ hd => ?_) ?_
    · have e26 : vals 26 = _ := hd 26 (by decide)
      have e31 : vals 31 = _ := hd 31 (by decide)
      rw [e26, e31]
      exact ⟨by kernel_rfl, by kernel_rfl, rfl⟩
    refine wpO_cons (oval (.bool true) GN.refl fun w_ hJ hd => ?_) ?_
    · have e32 : vals 32 = _ := hd 32 (by decide)
      rw [e32]
      exact ⟨by kernel_rfl, by kernel_rfl, rfl⟩
    refine wpO_cons (oval (.pointer (some ⟨k1, 0 + 5, none⟩)) GN.refl fun w_ hJ hd => ?_) ?_
    · have e33 : vals 33 = _ := hd 33 (by decide)
      rw [e33]
      exact ⟨by kernel_rfl, by kernel_rfl, rfl⟩
    refine wpO_cons (oop (Instr.loadAt 22 (.pointer (some ⟨k1, 0 + 5, none⟩))) (.int .u64 x.tval) GN.refl fun w_ hJ hd => ?_) ?_
    · have e34 : vals 34 = _ := hd 34 (by decide)
      have e33 : vals 33 = _ := hd 33 (by decide)
      rw [e34, e33]
      exact ⟨by kernel_rfl, by kernel_rfl, run_load1 (by kernel_rfl) (cell_blk (hJ.heap (unhide H1)) 5).1, rfl⟩
    refine wpO_cons (oval (.pointer (some ⟨k2, 0 + 5, none⟩)) GN.refl fun w_ hJ hd => ?_) ?_
    · have e33 : vals 33 = _ := hd 33 (by decide)
      rw [e33]
      exact ⟨by kernel_rfl, by kernel_rfl, rfl⟩
    refine wpO_cons (oop (Instr.loadAt 22 (.pointer (some ⟨k2, 0 + 5, none⟩))) (.int .u64 y.tval) GN.refl fun w_ hJ hd => ?_) ?_
    · have e36 : vals 36 = _ := hd 36 (by decide)
      have e33 : vals 33 = _ := hd 33 (by decide)
      rw [e36, e33]
      exact ⟨by kernel_rfl, by kernel_rfl, run_load1 (by kernel_rfl) (cell_blk (hJ.heap (unhide H2)) 5).1, rfl⟩
    refine wpO_cons (oop (binOp .eql 22 (.int .u64 x.tval) (.int .u64 y.tval)) (.bool true) GN.refl fun w_ hJ hd => ?_) ?_
    · have e35 : vals 35 = _ := hd 35 (by decide)
      have e37 : vals 37 = _ := hd 37 (by decide)
      have e33 : vals 33 = _ := hd 33 (by decide)
      rw [e35, e37, e33]
      exact ⟨by kernel_rfl, by kernel_rfl, run_eq22t (unhide h5) w_, rfl⟩
    refine wpO_cons (oval (.bool true) GN.refl fun w_ hJ hd => ?_) ?_
    · have e33 : vals 33 = _ := hd 33 (by decide)
      have e38 : vals 38 = _ := hd 38 (by decide)
      rw [e33, e38]
      exact ⟨by kernel_rfl, by kernel_rfl, rfl⟩
    refine wpO_cons (oval (.bool true) GN.refl fun w_ hJ hd => ?_) ?_
    · have e39 : vals 39 = _ := hd 39 (by decide)
      rw [e39]
      exact ⟨by kernel_rfl, by kernel_rfl, rfl⟩
    refine wpO_cons (oval (.pointer (some ⟨k1, 0 + 6, none⟩)) GN.refl fun w_ hJ hd => ?_) ?_
    · have e40 : vals 40 = _ := hd 40 (by decide)
      rw [e40]
      exact ⟨by kernel_rfl, by kernel_rfl, rfl⟩
    refine wpO_cons (oop (Instr.loadAt 22 (.pointer (some ⟨k1, 0 + 6, none⟩))) (.int .u64 x.nxt) GN.refl fun w_ hJ hd => ?_) ?_
    · have e41 : vals 41 = _ := hd 41 (by decide)
      have e40 : vals 40 = _ := hd 40 (by decide)
      rw [e41, e40]
      exact ⟨by kernel_rfl, by kernel_rfl, run_load1 (by kernel_rfl) (cell_blk (hJ.heap (unhide H1)) 6).1, rfl⟩
    refine wpO_cons (oval (.pointer (some ⟨k2, 0 + 6, none⟩)) GN.refl fun w_ hJ hd => ?_) ?_
    · have e40 : vals 40 = _ := hd 40 (by decide)
      rw [e40]
      exact ⟨by kernel_rfl, by kernel_rfl, rfl⟩
    refine wpO_cons (oop (Instr.loadAt 22 (.pointer (some ⟨k2, 0 + 6, none⟩))) (.int .u64 y.nxt) GN.refl fun w_ hJ hd => ?_) ?_
    · have e43 : vals 43 = _ := hd 43 (by decide)
      have e40 : vals 40 = _ := hd 40 (by decide)
      rw [e43, e40]
      exact ⟨by kernel_rfl, by kernel_rfl, run_load1 (by kernel_rfl) (cell_blk (hJ.heap (unhide H2)) 6).1, rfl⟩
    refine wpO_cons (oop (binOp .eql 22 (.int .u64 x.nxt) (.int .u64 y.nxt)) (.bool true) GN.refl fun w_ hJ hd => ?_) ?_
    · have e42 : vals 42 = _ := hd 42 (by decide)
      have e44 : vals 44 = _ := hd 44 (by decide)
      have e40 : vals 40 = _ := hd 40 (by decide)
      rw [e42, e44, e40]
      exact ⟨by kernel_rfl, by kernel_rfl, run_eq22t (unhide h6) w_, rfl⟩
    refine wpO_cons (oval (.bool true) GN.refl fun w_ hJ hd => ?_) ?_
    · have e40 : vals 40 = _ := hd 40 (by decide)
      have e45 : vals 45 = _ := hd 45 (by decide)
      rw [e40, e45]
      exact ⟨by kernel_rfl, by kernel_rfl, rfl⟩
    refine wpO_cons (oval (.bool true) GN.refl fun w_ hJ hd => ?_) ?_
    · have e46 : vals 46 = _ := hd 46 (by decide)
      rw [e46]
      exact ⟨by kernel_rfl, by kernel_rfl, rfl⟩
    refine wpO_cons (oval (.pointer (some ⟨k1, 0 + 7, none⟩)) GN.refl fun w_ hJ hd => ?_) ?_
    · have e47 : vals 47 = _ := hd 47 (by decide)
      rw [e47]
      exact ⟨by kernel_rfl, by kernel_rfl, rfl⟩
    refine wpO_cons (oop (Instr.loadAt 36 (.pointer (some ⟨k1, 0 + 7, none⟩))) (.agg #[.int .u64 (x.m 112), .int .u64 (x.m 113), .int .u64 (x.m 114), .int .u64 (x.m 115), .int .i64 (x.m 116), .int .u64 (x.m 117)]) GN.refl fun w_ hJ hd => ?_) ?_
    · have e48 : vals 48 = _ := hd 48 (by decide)
      have e47 : vals 47 = _ := hd 47 (by decide)
      rw [e48, e47]
      exact ⟨by kernel_rfl, by kernel_rfl, run_loadAt_mid w_ k1 (0 + 7) 36 [.int .u64 (x.m 112), .int .u64 (x.m 113), .int .u64 (x.m 114), .int .u64 (x.m 115), .int .i64 (x.m 116), .int .u64 (x.m 117)] _ (range_blk (hJ.heap (unhide H1)) 7 6 _ rfl) Tryd.underlying36 rfl (by kernel_rfl), rfl⟩
    refine wpO_cons (oval (.pointer (some ⟨k2, 0 + 7, none⟩)) GN.refl fun w_ hJ hd => ?_) ?_
    · have e47 : vals 47 = _ := hd 47 (by decide)
      rw [e47]
      exact ⟨by kernel_rfl, by kernel_rfl, rfl⟩
    refine wpO_cons (oop (Instr.loadAt 34 (.pointer (some ⟨k2, 0 + 7, none⟩))) (.agg #[.int .u64 (y.m 112), .int .u64 (y.m 113), .int .u64 (y.m 114), .int .u64 (y.m 115)]) GN.refl fun w_ hJ hd => ?_) ?_
    · have e50 : vals 50 = _ := hd 50 (by decide)
      have e47 : vals 47 = _ := hd 47 (by decide)
      rw [e50, e47]
      exact ⟨by kernel_rfl, by kernel_rfl, run_loadAt_mid w_ k2 (0 + 7) 34 [.int .u64 (y.m 112), .int .u64 (y.m 113), .int .u64 (y.m 114), .int .u64 (y.m 115)] _ (range_blk (hJ.heap (unhide H2)) 7 4 _ rfl) Tryd.underlying34 rfl (by kernel_rfl), rfl⟩
    refine wpO_cons (oval (.pointer (some ⟨k2, 0 + 11, none⟩)) GN.refl fun w_ hJ hd => ?_) ?_
    · have e47 : vals 47 = _ := hd 47 (by decide)
      rw [e47]
      exact ⟨by kernel_rfl, by kernel_rfl, rfl⟩
    refine wpO_cons (oop (Instr.loadAt 3 (.pointer (some ⟨k2, 0 + 11, none⟩))) (.int .i64 (y.m 116)) GN.refl fun w_ hJ hd => ?_) ?_
    · have e52 : vals 52 = _ := hd 52 (by decide)
      have e47 : vals 47 = _ := hd 47 (by decide)
      rw [e52, e47]
      exact ⟨by kernel_rfl, by kernel_rfl, run_load1 (by kernel_rfl) (cell_blk (hJ.heap (unhide H2)) 11).1, rfl⟩
    refine wpO_cons (oval (.pointer (some ⟨k2, 0 + 12, none⟩)) GN.refl fun w_ hJ hd => ?_) ?_
    · have e47 : vals 47 = _ := hd 47 (by decide)
      rw [e47]
      exact ⟨by kernel_rfl, by kernel_rfl, rfl⟩
    refine wpO_cons (oop (Instr.loadAt 22 (.pointer (some ⟨k2, 0 + 12, none⟩))) (.int .u64 (y.m 117)) GN.refl fun w_ hJ hd => ?_) ?_
    · have e54 : vals 54 = _ := hd 54 (by decide)
      have e47 : vals 47 = _ := hd 47 (by decide)
      rw [e54, e47]
      exact ⟨by kernel_rfl, by kernel_rfl, run_load1 (by kernel_rfl) (cell_blk (hJ.heap (unhide H2)) 12).1, rfl⟩
    refine wpO_cons (oval (.agg #[.int .u64 (y.m 112), .int .u64 (y.m 113), .int .u64 (y.m 114), .int .u64 (y.m 115), .int .i64 (y.m 116), .int .u64 (y.m 117)]) GN.refl fun w_ hJ hd => ?_) ?_
    · have e51 : vals 51 = _ := hd 51 (by decide)
      have e53 : vals 53 = _ := hd 53 (by decide)
      have e55 : vals 55 = _ := hd 55 (by decide)
      have e47 : vals 47 = _ := hd 47 (by decide)
      rw [e51, e53, e55, e47]
      exact ⟨by kernel_rfl, by kernel_rfl, rfl⟩
    refine wpO_cons (oop ((do eqGuard .eql 36 (.tmp 54) (.tmp 61) (.agg #[.int .u64 (x.m 112), .int .u64 (x.m 113), .int .u64 (x.m 114), .int .u64 (x.m 115), .int .i64 (x.m 116), .int .u64 (x.m 117)]) (.agg #[.int .u64 (y.m 112), .int .u64 (y.m 113), .int .u64 (y.m 114), .int .u64 (y.m 115), .int .i64 (y.m 116), .int .u64 (y.m 117)]); binOp .eql 36 (.agg #[.int .u64 (x.m 112), .int .u64 (x.m 113), .int .u64 (x.m 114), .int .u64 (x.m 115), .int .i64 (x.m 116), .int .u64 (x.m 117)]) (.agg #[.int .u64 (y.m 112), .int .u64 (y.m 113), .int .u64 (y.m 114), .int .u64 (y.m 115), .int .i64 (y.m 116), .int .u64 (y.m 117)]))) (.bool true) GN.refl fun w_ hJ hd => ?_) ?_
    · have e49 : vals 49 = _ := hd 49 (by decide)
      have e56 : vals 56 = _ := hd 56 (by decide)
      have e47 : vals 47 = _ := hd 47 (by decide)
      rw [e49, e56, e47]
      exact ⟨by kernel_rfl, by kernel_rfl, eqg36 (eql36t (unhide Hx) (unhide Hy) (unhide h7) w_), rfl⟩
    refine wpO_cons (oval (.bool true) GN.refl fun w_ hJ hd => ?_) ?_
    · have e47 : vals 47 = _ := hd 47 (by decide)
      have e57 : vals 57 = _ := hd 57 (by decide)
      rw [e47, e57]
      exact ⟨by kernel_rfl, by kernel_rfl, rfl⟩
    refine wpO_cons (oval (.bool true) GN.refl fun w_ hJ hd => ?_) wpO_nil
    · have e58 : vals 58 = _ := hd 58 (by decide)
      rw [e58]
      exact ⟨by kernel_rfl, by kernel_rfl, rfl⟩
  · intro vals w_ hJ hf
    have e0 : vals 0 = _ := hf 0 (by decide)
    have e1 : vals 1 = _ := hf 1 (by decide)
    have e2 : vals 2 = _ := hf 2 (by decide)
    have e3 : vals 3 = _ := hf 3 (by decide)
    have e4 : vals 4 = _ := hf 4 (by decide)
    have e5 : vals 5 = _ := hf 5 (by decide)
    have e6 : vals 6 = _ := hf 6 (by decide)
    have e7 : vals 7 = _ := hf 7 (by decide)
    have e8 : vals 8 = _ := hf 8 (by decide)
    have e9 : vals 9 = _ := hf 9 (by decide)
    have e10 : vals 10 = _ := hf 10 (by decide)
    have e11 : vals 11 = _ := hf 11 (by decide)
    have e12 : vals 12 = _ := hf 12 (by decide)
    have e13 : vals 13 = _ := hf 13 (by decide)
    have e14 : vals 14 = _ := hf 14 (by decide)
    have e15 : vals 15 = _ := hf 15 (by decide)
    have e16 : vals 16 = _ := hf 16 (by decide)
    have e17 : vals 17 = _ := hf 17 (by decide)
    have e18 : vals 18 = _ := hf 18 (by decide)
    have e19 : vals 19 = _ := hf 19 (by decide)
    have e20 : vals 20 = _ := hf 20 (by decide)
    have e21 : vals 21 = _ := hf 21 (by decide)
    have e22 : vals 22 = _ := hf 22 (by decide)
    have e23 : vals 23 = _ := hf 23 (by decide)
    have e24 : vals 24 = _ := hf 24 (by decide)
    have e25 : vals 25 = _ := hf 25 (by decide)
    have e26 : vals 26 = _ := hf 26 (by decide)
    have e27 : vals 27 = _ := hf 27 (by decide)
    have e28 : vals 28 = _ := hf 28 (by decide)
    have e29 : vals 29 = _ := hf 29 (by decide)
    have e30 : vals 30 = _ := hf 30 (by decide)
    have e31 : vals 31 = _ := hf 31 (by decide)
    have e32 : vals 32 = _ := hf 32 (by decide)
    have e33 : vals 33 = _ := hf 33 (by decide)
    have e34 : vals 34 = _ := hf 34 (by decide)
    have e35 : vals 35 = _ := hf 35 (by decide)
    have e36 : vals 36 = _ := hf 36 (by decide)
    have e37 : vals 37 = _ := hf 37 (by decide)
    have e38 : vals 38 = _ := hf 38 (by decide)
    have e39 : vals 39 = _ := hf 39 (by decide)
    have e40 : vals 40 = _ := hf 40 (by decide)
    have e41 : vals 41 = _ := hf 41 (by decide)
    have e42 : vals 42 = _ := hf 42 (by decide)
    have e43 : vals 43 = _ := hf 43 (by decide)
    have e44 : vals 44 = _ := hf 44 (by decide)
    have e45 : vals 45 = _ := hf 45 (by decide)
    have e46 : vals 46 = _ := hf 46 (by decide)
    have e47 : vals 47 = _ := hf 47 (by decide)
    have e48 : vals 48 = _ := hf 48 (by decide)
    have e49 : vals 49 = _ := hf 49 (by decide)
    have e50 : vals 50 = _ := hf 50 (by decide)
    have e51 : vals 51 = _ := hf 51 (by decide)
    have e52 : vals 52 = _ := hf 52 (by decide)
    have e53 : vals 53 = _ := hf 53 (by decide)
    have e54 : vals 54 = _ := hf 54 (by decide)
    have e55 : vals 55 = _ := hf 55 (by decide)
    have e56 : vals 56 = _ := hf 56 (by decide)
    have e57 : vals 57 = _ := hf 57 (by decide)
    have e58 : vals 58 = _ := hf 58 (by decide)
    have e59 : vals 59 = _ := hf 59 (by decide)
    show Exit.then _ _ _ (fillG vals 0 (_ :: _ :: _ :: _ :: _ :: _ :: _ :: _ :: _ :: _ :: _ :: _ :: _ :: _ :: _ :: _ :: _ :: _ :: _ :: _ :: _ :: _ :: _ :: _ :: _ :: _ :: _ :: _ :: _ :: _ :: _ :: _ :: _ :: _ :: _ :: _ :: _ :: _ :: _ :: _ :: _ :: _ :: _ :: _ :: _ :: _ :: _ :: _ :: _ :: _ :: _ :: _ :: _ :: _ :: _ :: _ :: _ :: _ :: _ :: _ :: []) _) _
    simp only [fillG, Nat.zero_add, Nat.reduceAdd, e0, e1, e2, e3, e4, e5, e6, e7, e8, e9, e10, e11, e12, e13, e14, e15, e16, e17, e18, e19, e20, e21, e22, e23, e24, e25, e26, e27, e28, e29, e30, e31, e32, e33, e34, e35, e36, e37, e38, e39, e40, e41, e42, e43, e44, e45, e46, e47, e48, e49, e50, e51, e52, e53, e54, e55, e56, e57, e58, e59, Act.put, List.setIfInBounds_toArray, List.set_cons_succ, List.set_cons_zero]
    clear e0 e1 e2 e3 e4 e5 e6 e7 e8 e9 e10 e11 e12 e13 e14 e15 e16 e17 e18 e19 e20 e21 e22 e23 e24 e25 e26 e27 e28 e29 e30 e31 e32 e33 e34 e35 e36 e37 e38 e39 e40 e41 e42 e43 e44 e45 e46 e47 e48 e49 e50 e51 e52 e53 e54 e55 e56 e57 e58 e59 hf
    have hg := GN.trans (unhide HG) hJ
    clear hJ H1 H2 Hx Hy h0 h1 h2 h3 h4 h5 h6 h7
    have Hg := hide hg
    clear hg
    go_wp2
    go_ret
    exact ⟨rfl, unhide Hg⟩
theorem same_g {x y : It} (hx : II x) (hy : II y) (w : World) :
    Calls Tryd.prog 24 #[.agg (itl x).toArray, .agg (itl y).toArray] w fun r w' => (∃ v, r = .returned (.bool v) ∧ (v = true ↔ itl x = itl y)) ∧ GN w w' := by
  by_cases q0 : x.pc = y.pc
  rotate_left
  · exact (same_d0 hx hy (hide q0) w).mono fun r w2 ⟨h1, h2⟩ => ⟨⟨false, h1, ⟨fun e => (by cases e), fun e => absurd (by simp only [itl, List.cons.injEq, Value.int.injEq, true_and] at e; exact e.1) q0⟩⟩, h2⟩
  by_cases q1 : x.bits = y.bits
  rotate_left
  · exact (same_d1 hx hy (hide q0) (hide q1) w).mono fun r w2 ⟨h1, h2⟩ => ⟨⟨false, h1, ⟨fun e => (by cases e), fun e => absurd (by simp only [itl, List.cons.injEq, Value.int.injEq, true_and] at e; exact e.2.1) q1⟩⟩, h2⟩
  by_cases q2 : x.inst = y.inst
  rotate_left
  · exact (same_d2 hx hy (hide q0) (hide q1) (hide q2) w).mono fun r w2 ⟨h1, h2⟩ => ⟨⟨false, h1, ⟨fun e => (by cases e), fun e => absurd (by simp only [itl, List.cons.injEq, Value.int.injEq, true_and] at e; exact e.2.2.1) q2⟩⟩, h2⟩
  by_cases q3 : x.size = y.size
  rotate_left
  · exact (same_d3 hx hy (hide q0) (hide q1) (hide q2) (hide q3) w).mono fun r w2 ⟨h1, h2⟩ => ⟨⟨false, h1, ⟨fun e => (by cases e), fun e => absurd (by simp only [itl, List.cons.injEq, Value.int.injEq, true_and] at e; exact e.2.2.2.1) q3⟩⟩, h2⟩
  by_cases q4 : x.cause = y.cause
  rotate_left
  · exact (same_d4 hx hy (hide q0) (hide q1) (hide q2) (hide q3) (hide q4) w).mono fun r w2 ⟨h1, h2⟩ => ⟨⟨false, h1, ⟨fun e => (by cases e), fun e => absurd (by simp only [itl, List.cons.injEq, Value.int.injEq, true_and] at e; exact e.2.2.2.2.1) q4⟩⟩, h2⟩
  by_cases q5 : x.tval = y.tval
  rotate_left
  · exact (same_d5 hx hy (hide q0) (hide q1) (hide q2) (hide q3) (hide q4) (hide q5) w).mono fun r w2 ⟨h1, h2⟩ => ⟨⟨false, h1, ⟨fun e => (by cases e), fun e => absurd (by simp only [itl, List.cons.injEq, Value.int.injEq, true_and] at e; exact e.2.2.2.2.2.1) q5⟩⟩, h2⟩
  by_cases q6 : x.nxt = y.nxt
  rotate_left
  · exact (same_d6 hx hy (hide q0) (hide q1) (hide q2) (hide q3) (hide q4) (hide q5) (hide q6) w).mono fun r w2 ⟨h1, h2⟩ => ⟨⟨false, h1, ⟨fun e => (by cases e), fun e => absurd (by simp only [itl, List.cons.injEq, Value.int.injEq, true_and] at e; exact e.2.2.2.2.2.2.1) q6⟩⟩, h2⟩
  by_cases q7 : [.int .u64 (x.m 112), .int .u64 (x.m 113), .int .u64 (x.m 114), .int .u64 (x.m 115), .int .i64 (x.m 116), .int .u64 (x.m 117)] = ([.int .u64 (y.m 112), .int .u64 (y.m 113), .int .u64 (y.m 114), .int .u64 (y.m 115), .int .i64 (y.m 116), .int .u64 (y.m 117)] : List Value)
  · exact (same_d8 hx hy (hide q0) (hide q1) (hide q2) (hide q3) (hide q4) (hide q5) (hide q6) (hide q7) w).mono fun r w2 ⟨h1, h2⟩ => ⟨⟨true, h1, ⟨fun _ => (by have e : itl x = [(.int .u64 x.pc : Value), .int .u32 x.bits, .int .u32 x.inst, .int .i64 x.size, .int .u64 x.cause, .int .u64 x.tval, .int .u64 x.nxt] ++ [.int .u64 (x.m 112), .int .u64 (x.m 113), .int .u64 (x.m 114), .int .u64 (x.m 115), .int .i64 (x.m 116), .int .u64 (x.m 117)] := rfl; rw [e, q7, q0, q1, q2, q3, q4, q5, q6]; rfl), fun _ => rfl⟩⟩, h2⟩
  · exact (same_d7 hx hy (hide q0) (hide q1) (hide q2) (hide q3) (hide q4) (hide q5) (hide q6) (hide q7) w).mono fun r w2 ⟨h1, h2⟩ => ⟨⟨false, h1, ⟨fun e => (by cases e), fun e => absurd (congrArg (List.drop 7) e) q7⟩⟩, h2⟩
end
end Go.Proofs.YtblbgalpkodibaaDoor
