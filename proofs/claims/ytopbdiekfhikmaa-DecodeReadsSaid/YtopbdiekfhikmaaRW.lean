/- Layer 3: DecodeReads: the walk. -/
import Derived.Test.YtopbdiekfhikmaaAW
import Derived.Test.YtopbdiekfhikmaaA6
import Derived.Test.YtopbdiekfhikmaaJ1
namespace Go.Proofs.Ytopbdiekfhikmaa
open Go.RowKit
theorem rows_in2 : rowsL.all (fun r => decide (0 ≤ r.kind) && decide (r.kind < 100) && decide (0 ≤ r.size) && decide (r.size < 100)) = true := by decide +kernel
theorem wf_small {n : Int} (h1 : -9223372036854775808 ≤ n) (h2 : n < 9223372036854775808) : (Lit.int .i64 n).wf = true := by
  simp [Lit.wf, IntKind.min, IntKind.max, IntKind.signed, IntKind.bits]; omega
theorem immF_bd (F : ByteArray) (b : Nat) : -9223372036854775808 ≤ immF F b ∧ immF F b < 9223372036854775808 := by
  rw [immF_of]
  unfold immP immI immS immB immU immJ fd
  repeat' split
  all_goals omega
theorem if_bd (q : Bool) (n : Nat) (h : n < 4294967296) : (Lit.int .i64 (if q then (n : Int) else 0)).wf = true := by
  cases q <;> exact wf_small (by simp <;> omega) (by simp <;> omega)
theorem ref_wf (b : Nat) : WFI (refN b) := by
  have hz : WFI zero := ⟨by decide, by decide, by decide, by decide, by decide, by decide, by decide, by decide, by decide⟩
  unfold refN
  split
  · exact hz
  · rename_i r hr
    have hin := List.all_eq_true.1 rows_in2 r (List.mem_of_find?_eq_some hr)
    simp only [Bool.and_eq_true, decide_eq_true_eq] at hin
    obtain ⟨⟨⟨k0, k1⟩, s0⟩, s1⟩ := hin
    unfold takeN
    split
    · exact hz
    · have f1 := fd_lt b 7 5
      have f2 := fd_lt b 15 5
      have f3 := fd_lt b 20 5
      have f4 := fd_lt b 27 5
      have f5 := fd_lt b 12 3
      have f6 := fd_lt b 20 12
      have hi := immF_bd r.form b
      unfold readN
      exact ⟨wf_small (by show _ ≤ r.kind; omega) (by show r.kind < _; omega), if_bd _ _ (by omega), if_bd _ _ (by omega), if_bd _ _ (by omega), if_bd _ _ (by omega), if_bd _ _ (by omega), if_bd _ _ (by omega), wf_small (by show _ ≤ r.size; omega) (by show r.size < _; omega), wf_small hi.1 hi.2⟩
set_option maxRecDepth 1000000 in
set_option maxHeartbeats 8000000 in
theorem reads_walk (b : Nat) (hb : b < 4294967296) (w : World) : Calls Try.prog 3 #[.int .u32 (b : Int)] w fun r w' => r = .returned (.bool true) ∧ GN w w' := by
  obtain ⟨X, hX⟩ : ∃ X, decN b = X := ⟨_, rfl⟩
  have HW := hide (show WFI X by rw [← hX, ← reads_plain hb]; exact ref_wf b)
  have HX := hide hX
  clear hX
  go_enter Try.func3, Try.ntmps3
  go_upto_region 1 with fail
  refine wp_list_O (fun w_ => GN w w_) GN (fun k_ v_ w_ => match k_ with
      | 0 => v_ = .bool true
      | 1 => v_ = .bool true
      | 2 => v_ = .int .u32 (b : Int)
      | 3 => v_ = .agg (insA X)
      | 4 => v_ = .int .u32 (b : Int)
      | 5 => v_ = .agg (insA X)
      | 6 => v_ = .bool true
      | 7 => v_ = .bool true
      | _ => v_ = .bool true) ?_ ?_ GN.refl ?_ ?_
  · exact GN.refl w
  · intro k_ v_ w_ w2_ h1 hg
    split at h1 <;> exact h1
  · intro vals
    show wpO _ _ _ _ _ _ 0 (_ :: _) _
    refine wpO_cons (ocall 9 #[] fun w_ hJ hd => ?_) ?_
    · exact ⟨by kernel_rfl, by kernel_rfl, (awake_any w_).mono fun e w2 ⟨he, hg⟩ => ⟨_, he, hJ.trans hg, hg, rfl⟩⟩
    refine wpO_cons (oval (.bool true) GN.refl fun w_ hJ hd => ?_) ?_
    · have e0 : vals 0 = _ := hd 0 (by decide)
      rw [e0]
      exact ⟨by kernel_rfl, by kernel_rfl, rfl⟩
    refine wpO_cons (oval (.int .u32 (b : Int)) GN.refl fun w_ hJ hd => ?_) ?_
    · have e1 : vals 1 = _ := hd 1 (by decide)
      rw [e1]
      exact ⟨by kernel_rfl, by kernel_rfl, rfl⟩
    refine wpO_cons (ocall 10 #[.int .u32 (b : Int)] fun w_ hJ hd => ?_) ?_
    · have e1 : vals 1 = _ := hd 1 (by decide)
      have e2 : vals 2 = _ := hd 2 (by decide)
      rw [e1, e2]
      exact ⟨by kernel_rfl, by kernel_rfl, (decode_any b hb w_).mono fun e w2 ⟨he, hg⟩ => ⟨_, he, hJ.trans hg, hg, by rw [unhide HX]; rfl⟩⟩
    refine wpO_cons (oval (.int .u32 (b : Int)) GN.refl fun w_ hJ hd => ?_) ?_
    · have e1 : vals 1 = _ := hd 1 (by decide)
      rw [e1]
      exact ⟨by kernel_rfl, by kernel_rfl, rfl⟩
    refine wpO_cons (ocall 11 #[.int .u32 (b : Int)] fun w_ hJ hd => ?_) ?_
    · have e1 : vals 1 = _ := hd 1 (by decide)
      have e4 : vals 4 = _ := hd 4 (by decide)
      rw [e1, e4]
      exact ⟨by kernel_rfl, by kernel_rfl, (rdecode_any b hb w_).mono fun e w2 ⟨he, hg⟩ => ⟨_, he, hJ.trans hg, hg, by rw [reads_plain hb, unhide HX]; rfl⟩⟩
    refine wpO_cons (oop ((do eqGuard .eql 25 (.tmp 6) (.tmp 8) (.agg (insA X)) (.agg (insA X)); binOp .eql 25 (.agg (insA X)) (.agg (insA X)) : Sem Value)) (.bool true) GN.refl fun w_ hJ hd => ?_) ?_
    · have e1 : vals 1 = _ := hd 1 (by decide)
      have e3 : vals 3 = _ := hd 3 (by decide)
      have e5 : vals 5 = _ := hd 5 (by decide)
      rw [e1, e3, e5]
      exact ⟨by kernel_rfl, by kernel_rfl, eqg25 (run_eql_same flat25 named25 kt25 (formed25 ..) (fits_ins (unhide HW))), rfl⟩
    refine wpO_cons (oval (.bool true) GN.refl fun w_ hJ hd => ?_) ?_
    · have e1 : vals 1 = _ := hd 1 (by decide)
      have e6 : vals 6 = _ := hd 6 (by decide)
      rw [e1, e6]
      exact ⟨by kernel_rfl, by kernel_rfl, rfl⟩
    refine wpO_cons (oval (.bool true) GN.refl fun w_ hJ hd => ?_) wpO_nil
    · have e7 : vals 7 = _ := hd 7 (by decide)
      rw [e7]
      exact ⟨by kernel_rfl, by kernel_rfl, rfl⟩
  · intro vals w_ hJ hf
    have e0 : vals 0 = _ := hf 0 (by decide)
    have e1 : vals 1 = _ := hf 1 (by decide)
    have e2 : vals 2 = _ := hf 2 (by decide)
    have e3 : vals 3 = _ := hf 3 (by decide)
    have e4 : vals 4 = _ := hf 4 (by decide)
    have e5 : vals 5 = _ := hf 5 (by decide)
    have e6 : vals 6 = _ := hf 6 (by decide)
    have e7 : vals 7 = _ := hf 7 (by decide)
    have e8 : vals 8 = _ := hf 8 (by decide)
    simp only [fillG, Nat.zero_add, Nat.reduceAdd, e0, e1, e2, e3, e4, e5, e6, e7, e8, Act.put, List.setIfInBounds_toArray, List.set_cons_succ, List.set_cons_zero]
    clear e0 e1 e2 e3 e4 e5 e6 e7 e8 hf
    have HG := hide hJ
    clear hJ
    go_wp2
    go_ret
    exact ⟨rfl, unhide HG⟩
end Go.Proofs.Ytopbdiekfhikmaa
