/- Layer 3: some answers that the document fixes. -/
import Derived.Test.YtopbdiekfhikmaaE8
import Derived.Test.YtopbdiekfhikmaaRegionO
namespace Go.Proofs.Ytopbdiekfhikmaa
open Go.RowKit
set_option maxRecDepth 100000 in
set_option maxHeartbeats 4000000 in
theorem enc_awake (w : World) : Calls Try.prog 12 #[insV (⟨23, 10, 10, 11, 0, 0, 0, 0, 0, false, false, false⟩ : Ins)] w fun e w' => e = .returned (.tuple #[.int .u32 45417779, .bool true]) ∧ GN w w' := by
  have h := encode_any (⟨23, 10, 10, 11, 0, 0, 0, 0, 0, false, false, false⟩ : Ins) ⟨by decide, by decide, by decide, by decide, by decide, by decide, by decide, by decide, by decide⟩ w
  rw [show encN (⟨23, 10, 10, 11, 0, 0, 0, 0, 0, false, false, false⟩ : Ins) = (45417779, true) from by decide +kernel] at h
  exact h
theorem dec_awake0 : decN 4293918867 = (⟨13, 1, 0, 0, 0, 0, 0, 0, -1, true, false, false⟩ : Ins) := by decide +kernel
theorem wf_awake0 : WFI (⟨13, 1, 0, 0, 0, 0, 0, 0, -1, true, false, false⟩ : Ins) := ⟨by decide, by decide, by decide, by decide, by decide, by decide, by decide, by decide, by decide⟩
theorem call_awake0 {W w : World} (hJ : GN W w) : Calls Try.prog 10 #[.int .u32 4293918867] w fun e w' => ∃ u, e = .returned u ∧ GN W w' ∧ GN w w' ∧ u = .agg (insA (⟨13, 1, 0, 0, 0, 0, 0, 0, -1, true, false, false⟩ : Ins)) :=
  (decode_any 4293918867 (by decide) w).mono fun e w' ⟨he, hq⟩ => ⟨_, he, hJ.trans hq, hq, by rw [dec_awake0]; rfl⟩
theorem eq_awake0 {x y : Operand} (w : World) : (do eqGuard .eql 25 x y (.agg (insA (⟨13, 1, 0, 0, 0, 0, 0, 0, -1, true, false, false⟩ : Ins))) (.agg (insA (⟨13, 1, 0, 0, 0, 0, 0, 0, -1, true, false, false⟩ : Ins))); binOp .eql 25 (.agg (insA (⟨13, 1, 0, 0, 0, 0, 0, 0, -1, true, false, false⟩ : Ins))) (.agg (insA (⟨13, 1, 0, 0, 0, 0, 0, 0, -1, true, false, false⟩ : Ins))) : Sem Value).run Try.prog w = .ok (.bool true) w :=
  eqg25 (by rw [eql25 wf_awake0 wf_awake0 w, decide_eq_true rfl])
theorem dec_awake1 : decN 4288671855 = (⟨3, 0, 0, 0, 0, 0, 0, 0, -8, false, false, false⟩ : Ins) := by decide +kernel
theorem wf_awake1 : WFI (⟨3, 0, 0, 0, 0, 0, 0, 0, -8, false, false, false⟩ : Ins) := ⟨by decide, by decide, by decide, by decide, by decide, by decide, by decide, by decide, by decide⟩
theorem call_awake1 {W w : World} (hJ : GN W w) : Calls Try.prog 10 #[.int .u32 4288671855] w fun e w' => ∃ u, e = .returned u ∧ GN W w' ∧ GN w w' ∧ u = .agg (insA (⟨3, 0, 0, 0, 0, 0, 0, 0, -8, false, false, false⟩ : Ins)) :=
  (decode_any 4288671855 (by decide) w).mono fun e w' ⟨he, hq⟩ => ⟨_, he, hJ.trans hq, hq, by rw [dec_awake1]; rfl⟩
theorem eq_awake1 {x y : Operand} (w : World) : (do eqGuard .eql 25 x y (.agg (insA (⟨3, 0, 0, 0, 0, 0, 0, 0, -8, false, false, false⟩ : Ins))) (.agg (insA (⟨3, 0, 0, 0, 0, 0, 0, 0, -8, false, false, false⟩ : Ins))); binOp .eql 25 (.agg (insA (⟨3, 0, 0, 0, 0, 0, 0, 0, -8, false, false, false⟩ : Ins))) (.agg (insA (⟨3, 0, 0, 0, 0, 0, 0, 0, -8, false, false, false⟩ : Ins))) : Sem Value).run Try.prog w = .ok (.bool true) w :=
  eqg25 (by rw [eql25 wf_awake1 wf_awake1 w, decide_eq_true rfl])
theorem dec_awake2 : decN 0 = (⟨0, 0, 0, 0, 0, 0, 0, 0, 0, false, false, false⟩ : Ins) := by decide +kernel
theorem wf_awake2 : WFI (⟨0, 0, 0, 0, 0, 0, 0, 0, 0, false, false, false⟩ : Ins) := ⟨by decide, by decide, by decide, by decide, by decide, by decide, by decide, by decide, by decide⟩
theorem call_awake2 {W w : World} (hJ : GN W w) : Calls Try.prog 10 #[.int .u32 0] w fun e w' => ∃ u, e = .returned u ∧ GN W w' ∧ GN w w' ∧ u = .agg (insA (⟨0, 0, 0, 0, 0, 0, 0, 0, 0, false, false, false⟩ : Ins)) :=
  (decode_any 0 (by decide) w).mono fun e w' ⟨he, hq⟩ => ⟨_, he, hJ.trans hq, hq, by rw [dec_awake2]; rfl⟩
theorem eq_awake2 {x y : Operand} (w : World) : (do eqGuard .eql 25 x y (.agg (insA (⟨0, 0, 0, 0, 0, 0, 0, 0, 0, false, false, false⟩ : Ins))) (.agg (insA (⟨0, 0, 0, 0, 0, 0, 0, 0, 0, false, false, false⟩ : Ins))); binOp .eql 25 (.agg (insA (⟨0, 0, 0, 0, 0, 0, 0, 0, 0, false, false, false⟩ : Ins))) (.agg (insA (⟨0, 0, 0, 0, 0, 0, 0, 0, 0, false, false, false⟩ : Ins))) : Sem Value).run Try.prog w = .ok (.bool true) w :=
  eqg25 (by rw [eql25 wf_awake2 wf_awake2 w, decide_eq_true rfl])
theorem dec_awake3 : decN 3256186195 = (⟨73, 10, 10, 0, 0, 7, 0, 8, 0, false, true, true⟩ : Ins) := by decide +kernel
theorem wf_awake3 : WFI (⟨73, 10, 10, 0, 0, 7, 0, 8, 0, false, true, true⟩ : Ins) := ⟨by decide, by decide, by decide, by decide, by decide, by decide, by decide, by decide, by decide⟩
theorem call_awake3 {W w : World} (hJ : GN W w) : Calls Try.prog 10 #[.int .u32 3256186195] w fun e w' => ∃ u, e = .returned u ∧ GN W w' ∧ GN w w' ∧ u = .agg (insA (⟨73, 10, 10, 0, 0, 7, 0, 8, 0, false, true, true⟩ : Ins)) :=
  (decode_any 3256186195 (by decide) w).mono fun e w' ⟨he, hq⟩ => ⟨_, he, hJ.trans hq, hq, by rw [dec_awake3]; rfl⟩
theorem eq_awake3 {x y : Operand} (w : World) : (do eqGuard .eql 25 x y (.agg (insA (⟨73, 10, 10, 0, 0, 7, 0, 8, 0, false, true, true⟩ : Ins))) (.agg (insA (⟨73, 10, 10, 0, 0, 7, 0, 8, 0, false, true, true⟩ : Ins))); binOp .eql 25 (.agg (insA (⟨73, 10, 10, 0, 0, 7, 0, 8, 0, false, true, true⟩ : Ins))) (.agg (insA (⟨73, 10, 10, 0, 0, 7, 0, 8, 0, false, true, true⟩ : Ins))) : Sem Value).run Try.prog w = .ok (.bool true) w :=
  eqg25 (by rw [eql25 wf_awake3 wf_awake3 w, decide_eq_true rfl])
set_option maxRecDepth 100000 in
set_option maxHeartbeats 4000000 in
theorem awake_any (w : World) : Calls Try.prog 9 #[] w fun e w' => e = .returned (.bool true) ∧ GN w w' := by
  go_enter Try.func9, Try.ntmps9
  go_upto_region 2 with (go_at_call 12; refine (enc_awake _).mono ?_; rintro _ w12 ⟨rfl, hq⟩)
  refine wp_list_O (fun w_ => GN w w_) GN (fun k_ v_ w_ => match k_ with
      | 0 => v_ = .agg (insA (⟨13, 1, 0, 0, 0, 0, 0, 0, -1, true, false, false⟩ : Ins))
      | 1 => v_ = .agg (insA (⟨13, 1, 0, 0, 0, 0, 0, 0, -1, true, false, false⟩ : Ins))
      | 2 => v_ = .bool true
      | 3 => v_ = .bool true
      | 4 => v_ = .agg (insA (⟨3, 0, 0, 0, 0, 0, 0, 0, -8, false, false, false⟩ : Ins))
      | 5 => v_ = .agg (insA (⟨3, 0, 0, 0, 0, 0, 0, 0, -8, false, false, false⟩ : Ins))
      | 6 => v_ = .bool true
      | 7 => v_ = .bool true
      | 8 => v_ = .bool true
      | 9 => v_ = .agg (insA (⟨0, 0, 0, 0, 0, 0, 0, 0, 0, false, false, false⟩ : Ins))
      | 10 => v_ = .agg (insA (⟨0, 0, 0, 0, 0, 0, 0, 0, 0, false, false, false⟩ : Ins))
      | 11 => v_ = .bool true
      | 12 => v_ = .bool true
      | 13 => v_ = .bool true
      | 14 => v_ = .agg (insA (⟨73, 10, 10, 0, 0, 7, 0, 8, 0, false, true, true⟩ : Ins))
      | 15 => v_ = .agg (insA (⟨73, 10, 10, 0, 0, 7, 0, 8, 0, false, true, true⟩ : Ins))
      | 16 => v_ = .bool true
      | 17 => v_ = .bool true
      | 18 => v_ = .bool true
      | 19 => v_ = .bool true
      | 20 => v_ = .bool true
      | 21 => v_ = .bool true
      | 22 => v_ = .int .u32 45417779
      | 23 => v_ = .bool true
      | 24 => v_ = .bool true
      | _ => v_ = .bool true) ?_ ?_ GN.refl ?_ ?_
  · exact hq
  · intro k_ v_ w_ w2_ h1 hg
    split at h1 <;> exact h1
  · intro vals
    show wpO _ _ _ _ _ _ 0 (_ :: _) _
    refine wpO_cons (ocall 10 #[.int .u32 4293918867] fun w_ hJ hd => ?_) ?_
    · exact ⟨by kernel_rfl, by kernel_rfl, call_awake0 hJ⟩
    refine wpO_cons (oval (.agg (insA (⟨13, 1, 0, 0, 0, 0, 0, 0, -1, true, false, false⟩ : Ins))) GN.refl fun w_ hJ hd => ?_) ?_
    · exact ⟨by kernel_rfl, by kernel_rfl, rfl⟩
    refine wpO_cons (oop ((do eqGuard .eql 25 (.tmp 8) (.tmp 9) (.agg (insA (⟨13, 1, 0, 0, 0, 0, 0, 0, -1, true, false, false⟩ : Ins))) (.agg (insA (⟨13, 1, 0, 0, 0, 0, 0, 0, -1, true, false, false⟩ : Ins))); binOp .eql 25 (.agg (insA (⟨13, 1, 0, 0, 0, 0, 0, 0, -1, true, false, false⟩ : Ins))) (.agg (insA (⟨13, 1, 0, 0, 0, 0, 0, 0, -1, true, false, false⟩ : Ins))))) (.bool true) GN.refl fun w_ hJ hd => ?_) ?_
    · have e0 : vals 0 = _ := hd 0 (by decide)
      have e1 : vals 1 = _ := hd 1 (by decide)
      rw [e0, e1]
      exact ⟨by kernel_rfl, by kernel_rfl, eq_awake0 w_, rfl⟩
    refine wpO_cons (oval (.bool true) GN.refl fun w_ hJ hd => ?_) ?_
    · have e2 : vals 2 = _ := hd 2 (by decide)
      rw [e2]
      exact ⟨by kernel_rfl, by kernel_rfl, rfl⟩
    refine wpO_cons (ocall 10 #[.int .u32 4288671855] fun w_ hJ hd => ?_) ?_
    · have e3 : vals 3 = _ := hd 3 (by decide)
      rw [e3]
      exact ⟨by kernel_rfl, by kernel_rfl, call_awake1 hJ⟩
    refine wpO_cons (oval (.agg (insA (⟨3, 0, 0, 0, 0, 0, 0, 0, -8, false, false, false⟩ : Ins))) GN.refl fun w_ hJ hd => ?_) ?_
    · have e3 : vals 3 = _ := hd 3 (by decide)
      rw [e3]
      exact ⟨by kernel_rfl, by kernel_rfl, rfl⟩
    refine wpO_cons (oop ((do eqGuard .eql 25 (.tmp 12) (.tmp 13) (.agg (insA (⟨3, 0, 0, 0, 0, 0, 0, 0, -8, false, false, false⟩ : Ins))) (.agg (insA (⟨3, 0, 0, 0, 0, 0, 0, 0, -8, false, false, false⟩ : Ins))); binOp .eql 25 (.agg (insA (⟨3, 0, 0, 0, 0, 0, 0, 0, -8, false, false, false⟩ : Ins))) (.agg (insA (⟨3, 0, 0, 0, 0, 0, 0, 0, -8, false, false, false⟩ : Ins))))) (.bool true) GN.refl fun w_ hJ hd => ?_) ?_
    · have e3 : vals 3 = _ := hd 3 (by decide)
      have e4 : vals 4 = _ := hd 4 (by decide)
      have e5 : vals 5 = _ := hd 5 (by decide)
      rw [e3, e4, e5]
      exact ⟨by kernel_rfl, by kernel_rfl, eq_awake1 w_, rfl⟩
    refine wpO_cons (oval (.bool true) GN.refl fun w_ hJ hd => ?_) ?_
    · have e3 : vals 3 = _ := hd 3 (by decide)
      have e6 : vals 6 = _ := hd 6 (by decide)
      rw [e3, e6]
      exact ⟨by kernel_rfl, by kernel_rfl, rfl⟩
    refine wpO_cons (oval (.bool true) GN.refl fun w_ hJ hd => ?_) ?_
    · have e7 : vals 7 = _ := hd 7 (by decide)
      rw [e7]
      exact ⟨by kernel_rfl, by kernel_rfl, rfl⟩
    refine wpO_cons (ocall 10 #[.int .u32 0] fun w_ hJ hd => ?_) ?_
    · have e8 : vals 8 = _ := hd 8 (by decide)
      rw [e8]
      exact ⟨by kernel_rfl, by kernel_rfl, call_awake2 hJ⟩
    refine wpO_cons (oval (.agg (insA (⟨0, 0, 0, 0, 0, 0, 0, 0, 0, false, false, false⟩ : Ins))) GN.refl fun w_ hJ hd => ?_) ?_
    · have e8 : vals 8 = _ := hd 8 (by decide)
      rw [e8]
      exact ⟨by kernel_rfl, by kernel_rfl, rfl⟩
    refine wpO_cons (oop ((do eqGuard .eql 25 (.tmp 17) (.tmp 18) (.agg (insA (⟨0, 0, 0, 0, 0, 0, 0, 0, 0, false, false, false⟩ : Ins))) (.agg (insA (⟨0, 0, 0, 0, 0, 0, 0, 0, 0, false, false, false⟩ : Ins))); binOp .eql 25 (.agg (insA (⟨0, 0, 0, 0, 0, 0, 0, 0, 0, false, false, false⟩ : Ins))) (.agg (insA (⟨0, 0, 0, 0, 0, 0, 0, 0, 0, false, false, false⟩ : Ins))))) (.bool true) GN.refl fun w_ hJ hd => ?_) ?_
    · have e8 : vals 8 = _ := hd 8 (by decide)
      have e9 : vals 9 = _ := hd 9 (by decide)
      have e10 : vals 10 = _ := hd 10 (by decide)
      rw [e8, e9, e10]
      exact ⟨by kernel_rfl, by kernel_rfl, eq_awake2 w_, rfl⟩
    refine wpO_cons (oval (.bool true) GN.refl fun w_ hJ hd => ?_) ?_
    · have e8 : vals 8 = _ := hd 8 (by decide)
      have e11 : vals 11 = _ := hd 11 (by decide)
      rw [e8, e11]
      exact ⟨by kernel_rfl, by kernel_rfl, rfl⟩
    refine wpO_cons (oval (.bool true) GN.refl fun w_ hJ hd => ?_) ?_
    · have e12 : vals 12 = _ := hd 12 (by decide)
      rw [e12]
      exact ⟨by kernel_rfl, by kernel_rfl, rfl⟩
    refine wpO_cons (ocall 10 #[.int .u32 3256186195] fun w_ hJ hd => ?_) ?_
    · have e13 : vals 13 = _ := hd 13 (by decide)
      rw [e13]
      exact ⟨by kernel_rfl, by kernel_rfl, call_awake3 hJ⟩
    refine wpO_cons (oval (.agg (insA (⟨73, 10, 10, 0, 0, 7, 0, 8, 0, false, true, true⟩ : Ins))) GN.refl fun w_ hJ hd => ?_) ?_
    · have e13 : vals 13 = _ := hd 13 (by decide)
      rw [e13]
      exact ⟨by kernel_rfl, by kernel_rfl, rfl⟩
    refine wpO_cons (oop ((do eqGuard .eql 25 (.tmp 22) (.tmp 23) (.agg (insA (⟨73, 10, 10, 0, 0, 7, 0, 8, 0, false, true, true⟩ : Ins))) (.agg (insA (⟨73, 10, 10, 0, 0, 7, 0, 8, 0, false, true, true⟩ : Ins))); binOp .eql 25 (.agg (insA (⟨73, 10, 10, 0, 0, 7, 0, 8, 0, false, true, true⟩ : Ins))) (.agg (insA (⟨73, 10, 10, 0, 0, 7, 0, 8, 0, false, true, true⟩ : Ins))))) (.bool true) GN.refl fun w_ hJ hd => ?_) ?_
    · have e13 : vals 13 = _ := hd 13 (by decide)
      have e14 : vals 14 = _ := hd 14 (by decide)
      have e15 : vals 15 = _ := hd 15 (by decide)
      rw [e13, e14, e15]
      exact ⟨by kernel_rfl, by kernel_rfl, eq_awake3 w_, rfl⟩
    refine wpO_cons (oval (.bool true) GN.refl fun w_ hJ hd => ?_) ?_
    · have e13 : vals 13 = _ := hd 13 (by decide)
      have e16 : vals 16 = _ := hd 16 (by decide)
      rw [e13, e16]
      exact ⟨by kernel_rfl, by kernel_rfl, rfl⟩
    refine wpO_cons (oval (.bool true) GN.refl fun w_ hJ hd => ?_) ?_
    · have e17 : vals 17 = _ := hd 17 (by decide)
      rw [e17]
      exact ⟨by kernel_rfl, by kernel_rfl, rfl⟩
    refine wpO_cons (oval (.bool true) GN.refl fun w_ hJ hd => ?_) ?_
    · have e18 : vals 18 = _ := hd 18 (by decide)
      rw [e18]
      exact ⟨by kernel_rfl, by kernel_rfl, rfl⟩
    refine wpO_cons (oval (.bool true) GN.refl fun w_ hJ hd => ?_) ?_
    · have e18 : vals 18 = _ := hd 18 (by decide)
      have e19 : vals 19 = _ := hd 19 (by decide)
      rw [e18, e19]
      exact ⟨by kernel_rfl, by kernel_rfl, rfl⟩
    refine wpO_cons (oval (.bool true) GN.refl fun w_ hJ hd => ?_) ?_
    · have e20 : vals 20 = _ := hd 20 (by decide)
      rw [e20]
      exact ⟨by kernel_rfl, by kernel_rfl, rfl⟩
    refine wpO_cons (oval (.int .u32 45417779) GN.refl fun w_ hJ hd => ?_) ?_
    · have e21 : vals 21 = _ := hd 21 (by decide)
      rw [e21]
      exact ⟨by kernel_rfl, by kernel_rfl, rfl⟩
    refine wpO_cons (oval (.bool true) GN.refl fun w_ hJ hd => ?_) ?_
    · have e21 : vals 21 = _ := hd 21 (by decide)
      have e22 : vals 22 = _ := hd 22 (by decide)
      rw [e21, e22]
      exact ⟨by kernel_rfl, by kernel_rfl, rfl⟩
    refine wpO_cons (oval (.bool true) GN.refl fun w_ hJ hd => ?_) ?_
    · have e21 : vals 21 = _ := hd 21 (by decide)
      have e23 : vals 23 = _ := hd 23 (by decide)
      rw [e21, e23]
      exact ⟨by kernel_rfl, by kernel_rfl, rfl⟩
    refine wpO_cons (oval (.bool true) GN.refl fun w_ hJ hd => ?_) wpO_nil
    · have e24 : vals 24 = _ := hd 24 (by decide)
      rw [e24]
      exact ⟨by kernel_rfl, by kernel_rfl, rfl⟩
  intro vals w_ hJ hf
  have e0 : vals 0 = _ := hf 0 (by decide)
  have e1 : vals 1 = _ := hf 1 (by decide)
  have e2 : vals 2 = _ := hf 2 (by decide)
  have e3 : vals 3 = _ := hf 3 (by decide)
  have e4 : vals 4 = _ := hf 4 (by decide)
  have e5 : vals 5 = _ := hf 5 (by decide)
  have e6 : vals 6 = _ := hf 6 (by decide)
  have e7 : vals 7 = _ := hf 7 (by decide)
  have e8 : vals 8 = _ := hf 8 (by decide)
  have e9 : vals 9 = _ := hf 9 (by decide)
  have e10 : vals 10 = _ := hf 10 (by decide)
  have e11 : vals 11 = _ := hf 11 (by decide)
  have e12 : vals 12 = _ := hf 12 (by decide)
  have e13 : vals 13 = _ := hf 13 (by decide)
  have e14 : vals 14 = _ := hf 14 (by decide)
  have e15 : vals 15 = _ := hf 15 (by decide)
  have e16 : vals 16 = _ := hf 16 (by decide)
  have e17 : vals 17 = _ := hf 17 (by decide)
  have e18 : vals 18 = _ := hf 18 (by decide)
  have e19 : vals 19 = _ := hf 19 (by decide)
  have e20 : vals 20 = _ := hf 20 (by decide)
  have e21 : vals 21 = _ := hf 21 (by decide)
  have e22 : vals 22 = _ := hf 22 (by decide)
  have e23 : vals 23 = _ := hf 23 (by decide)
  have e24 : vals 24 = _ := hf 24 (by decide)
  have e25 : vals 25 = _ := hf 25 (by decide)
  simp only [fillG, Nat.zero_add, Nat.reduceAdd, e0, e1, e2, e3, e4, e5, e6, e7, e8, e9, e10, e11, e12, e13, e14, e15, e16, e17, e18, e19, e20, e21, e22, e23, e24, e25, Act.put, List.setIfInBounds_toArray, List.set_cons_succ, List.set_cons_zero]
  clear e0 e1 e2 e3 e4 e5 e6 e7 e8 e9 e10 e11 e12 e13 e14 e15 e16 e17 e18 e19 e20 e21 e22 e23 e24 e25 hf
  go_wp2
  go_ret
  exact ⟨rfl, hJ⟩
end Go.Proofs.Ytopbdiekfhikmaa
