/- Layer 15: a step's entry; what is fixed. -/
import Derived.Test.YtlkkmpfhhfaioaaT16
namespace Go.Proofs.Ytlkkmpfhhfaioaa
open Go.RowKit

set_option maxHeartbeats 1000000 in
theorem entry_any (kd at_ lv sp : Int) (gl : Bool) (lf : Int) (w : World) :
    Calls Try.prog 12 #[.agg #[.int .i64 kd, .int .u64 at_, .int .i64 lv, .int .u64 sp, .bool gl, .int .u64 lf]] w fun r w' => r = .returned (.agg #[.int .u64 at_, .int .i64 lv, .int .u64 sp, .bool gl, .int .u64 lf]) ∧ GN w w' := by
  go_enter Try.func12, Try.ntmps12
  go_wp2
  exact bodyPost_ret (v := .agg #[.int .u64 at_, .int .i64 lv, .int .u64 sp, .bool gl, .int .u64 lf]) (by simp [results, Try.results12, go_sem]) rfl ⟨rfl, by repeat (first | exact GN.refl _ | refine GN.alloc ?_ _ | refine GN.set ?_ (by simp) _ _)⟩
section
variable {w0 w : World} {L : List HP} {seed : Int} {b : Nat} {S : Slots} {e : E}
theorem find_hit (h : Heap w0 w (HP.tl b seed S :: L)) {sp a : Int} (a0 : 0 ≤ a) (a1 : a < 18446744073709551616) (hf : findS S sp a = some e) :
    Calls Try.prog 14 #[.pointer (some ⟨b, 0, none⟩), .int .u64 sp, .int .u64 a] w fun r w' => r = .returned (.tuple #[.agg #[.int .u64 e.at_, .int .i64 e.lv, .int .u64 e.sp, .bool e.gl, .int .u64 e.lf], .bool true]) ∧ Heap w0 w' (HP.tl b seed S :: L) := by
  have := find_h h sp a a0 a1
  rw [hf] at this
  exact this
theorem find_miss (h : Heap w0 w (HP.tl b seed S :: L)) {sp a : Int} (a0 : 0 ≤ a) (a1 : a < 18446744073709551616) (hf : findS S sp a = none) :
    Calls Try.prog 14 #[.pointer (some ⟨b, 0, none⟩), .int .u64 sp, .int .u64 a] w fun r w' => r = .returned (.tuple #[.agg #[.int .u64 0, .int .i64 0, .int .u64 0, .bool false, .int .u64 0], .bool false]) ∧ Heap w0 w' (HP.tl b seed S :: L) := by
  have := find_h h sp a a0 a1
  rw [hf] at this
  exact this
theorem put_yes (h : Heap w0 w (HP.tl b seed S :: L)) (hw : e.wf) (hb : bad e = false) :
    Calls Try.prog 11 #[.pointer (some ⟨b, 0, none⟩), .agg #[.int .u64 e.at_, .int .i64 e.lv, .int .u64 e.sp, .bool e.gl, .int .u64 e.lf]] w fun r w' => r = .returned (.bool true) ∧ Heap w0 w' (HP.tl b (putSeed S seed e) (putS S seed e) :: L) := by
  have := put_h h hw
  rw [hb] at this
  exact this
theorem put_no (h : Heap w0 w (HP.tl b seed S :: L)) (hw : e.wf) (hb : bad e = true) :
    Calls Try.prog 11 #[.pointer (some ⟨b, 0, none⟩), .agg #[.int .u64 e.at_, .int .i64 e.lv, .int .u64 e.sp, .bool e.gl, .int .u64 e.lf]] w fun r w' => r = .returned (.bool false) ∧ Heap w0 w' (HP.tl b seed S :: L) := by
  have := put_h h hw
  have e1 : putSeed S seed e = seed := by unfold putSeed; rw [hb]; rfl
  have e2 : putS S seed e = S := by unfold putS; rw [hb]; rfl
  rw [hb, e1, e2] at this
  exact this
end
def e1 : E := ⟨4096, 0, 5, false, 1⟩
def S1 : Slots := putS S0 0 e1
def S2 : Slots := fenK S1 ⟨true, 6144, true, 5⟩ 8
theorem e1_wf : e1.wf := ⟨by decide, by decide, by decide, by decide, by decide, by decide, by decide, by decide⟩
def e2 : E := ⟨4097, 0, 0, false, 0⟩
theorem e2_wf : e2.wf := ⟨by decide, by decide, by decide, by decide, by decide, by decide, by decide, by decide⟩
theorem e1_bad : bad e1 = false := by kernel_rfl
theorem e2_bad : bad e2 = true := by kernel_rfl
theorem f1 : findS S1 5 8191 = some e1 := by kernel_rfl
theorem f2 : findS S1 6 4096 = none := by kernel_rfl
theorem f3 : findS S2 5 8191 = none := by kernel_rfl
theorem k1 : kept S1 8 = [e1] := by kernel_rfl
theorem k2 : kept S2 8 = [] := by kernel_rfl
theorem eq33 : ∀ w : World, (binOp .eql 33 (.agg #[.int .u64 4096, .int .i64 0, .int .u64 5, .bool false, .int .u64 1]) (.agg #[.int .u64 4096, .int .i64 0, .int .u64 5, .bool false, .int .u64 1])).run Try.prog w = .ok (.bool true) w := fun w => by kernel_rfl
section
variable {w0 w : World} {L : List HP}
set_option maxRecDepth 100000 in
set_option maxHeartbeats 1000000 in
theorem fixed_h (h : Heap w0 w L) : Calls Try.prog 8 #[] w fun r w' => r = .returned (.bool true) ∧ Heap w0 w' L := by
  have heq := eq33
  go_enter Try.func8, Try.ntmps8
  go_wp2_with fail
  refine (new_h (seed := 0) h (by decide) (by decide)).mono ?_
  rintro r w1 ⟨b, rfl, h1⟩
  clear h
  go_wp2_with fail
  refine (put_yes (e := e1) (h1.new #[.int .u64 4096, .int .i64 0, .int .u64 5, .bool false, .int .u64 1] 33).f2 e1_wf e1_bad).mono ?_
  rintro r w2 ⟨rfl, h2⟩
  change Heap w0 w2 (HP.tl b (putSeed S0 0 e1) S1 :: _) at h2
  generalize putSeed S0 0 e1 = seed at h2
  clear h1
  go_wp2_with fail
  refine (find_hit h2 (by decide) (by decide) f1).mono ?_
  rintro r w3 ⟨rfl, h3⟩
  change Heap w0 w3 (HP.tl b seed S1 :: _) at h3
  clear h2
  go_wp2_with fail
  refine (find_miss (h3.new #[.int .u64 4096, .int .i64 0, .int .u64 5, .bool false, .int .u64 1] 33).f2 (by decide) (by decide) f2).mono ?_
  rintro r w4 ⟨rfl, h4⟩
  clear h3
  go_wp2_with fail
  refine (put_no (e := e2) (h4.alloc _) e2_wf e2_bad).mono ?_
  rintro r w5 ⟨rfl, h5⟩
  clear h4
  go_wp2_with fail
  refine (copy_h h5).mono ?_
  rintro r w6 ⟨b', rfl, h6⟩
  clear h5
  go_wp2_with fail
  refine (fence_h h6.f2 true 6144 true 5 (by decide) (by decide)).mono ?_
  rintro r w7 ⟨rfl, h7⟩
  change Heap w0 w7 (HP.tl b seed S2 :: _) at h7
  clear h6
  go_wp2_with fail
  refine (find_miss h7 (by decide) (by decide) f3).mono ?_
  rintro r w8 ⟨rfl, h8⟩
  clear h7
  have c5 := cells5 h8.f3.heap
  have c6 := cells5 h8.f4.heap
  have l5 := lt_of_heap' h8.f3.heap
  have l6 := lt_of_heap' h8.f4.heap
  go_wp2_with fail
  refine (all_h (h8.alloc _)).mono ?_
  rintro r w9 ⟨v, rfl, h9⟩
  rw [k2] at h9
  obtain ⟨A, cap, rfl, hcap⟩ := h9.slw.parts
  clear h8
  go_wp2_with fail
  refine (all_h h9.f3).mono ?_
  rintro r w10 ⟨v, rfl, h10⟩
  rw [k1] at h10
  obtain ⟨A', cap', rfl, hcap'⟩ := h10.slw.parts
  clear h9
  go_wp2
  go_ret
  exact ⟨rfl, h10.tail.tail.tail.tail.tail.tail⟩
end
end Go.Proofs.Ytlkkmpfhhfaioaa
