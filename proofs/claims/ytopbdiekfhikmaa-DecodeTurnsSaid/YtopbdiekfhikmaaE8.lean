/- Layer 3: Encode, walked. -/
import Derived.Test.YtopbdiekfhikmaaE7
namespace Go.Proofs.Ytopbdiekfhikmaa
open Go.RowKit
set_option maxRecDepth 100000 in
set_option maxHeartbeats 4000000 in
theorem enc_no (k rd r1 r2 r3 rm c sz i : Int) (ui us wd : Bool) (hw : WFI (⟨k, rd, r1, r2, r3, rm, c, sz, i, ui, us, wd⟩ : Ins)) (w : World) (hF : (formN k rd r1 r2 r3 rm c sz i ui us wd).2 = false) : Calls Try.prog 12 #[.agg #[.int .i64 k, .int .i64 rd, .int .i64 r1, .int .i64 r2, .int .i64 r3, .int .i64 rm, .int .i64 c, .int .i64 sz, .int .i64 i, .bool ui, .bool us, .bool wd]] w fun e w' => e = .returned (.tuple #[.int .u32 0, .bool false]) ∧ GN w w' := by
  have hi := hw.imm
  have hz := hw.size
  go_enter Try.func12, Try.ntmps12
  go_upto_region 2 with (go_at_call 33; refine (form_any _ _ _ _ _ _ _ _ _ (by assumption) (by assumption) _ _ _ _).mono ?_; rintro _ w33 ⟨rfl, hq⟩)
  have hgn : GN w w33 := GN.trans (by (repeat (first | with_reducible exact GN.refl _ | with_reducible assumption | (with_reducible refine GN.set ?_ ?_ _ _; rotate_left; · first | assumption | (simp; done)) | with_reducible refine GN.alloc ?_ _ | with_reducible refine GN.drewN ?_ _))) hq
  go_quiet (fail)
  go_wp2
  go_ret2
  exact ⟨rfl, hgn.drewN _⟩
set_option maxRecDepth 100000 in
set_option maxHeartbeats 4000000 in
theorem enc_false (k rd r1 r2 r3 rm c sz i : Int) (ui us wd : Bool) (hw : WFI (⟨k, rd, r1, r2, r3, rm, c, sz, i, ui, us, wd⟩ : Ins)) (w : World) (s : Nat) (hF : formN k rd r1 r2 r3 rm c sz i ui us wd = (s, true)) (hd : decN s = (⟨k, rd, r1, r2, r3, rm, c, sz, i, ui, us, wd⟩ : Ins)) : Calls Try.prog 12 #[.agg #[.int .i64 k, .int .i64 rd, .int .i64 r1, .int .i64 r2, .int .i64 r3, .int .i64 rm, .int .i64 c, .int .i64 sz, .int .i64 i, .bool ui, .bool us, .bool wd]] w fun e w' => e = .returned (.tuple #[.int .u32 (s : Nat), .bool true]) ∧ GN w w' := by
  have hi := hw.imm
  have hz := hw.size
  have hs : s < 4294967296 := by
    have := formN_lt k rd r1 r2 r3 rm c sz i ui us wd
    rw [hF] at this
    exact this
  have HB : Hid (∀ w : World, (binOp .neq 25 (.agg (insA (decN s))) (.agg (insA (⟨k, rd, r1, r2, r3, rm, c, sz, i, ui, us, wd⟩ : Ins)))).run Try.prog w = .ok (.bool false) w) := fun w => by
    rw [neq25 (dec_wf s) hw, decide_eq_true hd]; rfl
  clear hd
  go_enter Try.func12, Try.ntmps12
  go_upto_region 2 with (go_at_call 33; refine (form_any _ _ _ _ _ _ _ _ _ (by assumption) (by assumption) _ _ _ _).mono ?_; rw [hF]; rintro _ w33 ⟨rfl, hq⟩)
  have hgn : GN w w33 := GN.trans (by (repeat (first | with_reducible exact GN.refl _ | with_reducible assumption | (with_reducible refine GN.set ?_ ?_ _ _; rotate_left; · first | assumption | (simp; done)) | with_reducible refine GN.alloc ?_ _ | with_reducible refine GN.drewN ?_ _))) hq
  have hx := GN.heap hq (o := .cells #[.int .i64 k, .int .i64 rd, .int .i64 r1, .int .i64 r2, .int .i64 r3, .int .i64 rm, .int .i64 c, .int .i64 sz, .int .i64 i, .bool ui, .bool us, .bool wd] 25) (b := w.heap.size) (by (repeat (first | with_reducible assumption | with_reducible apply hp_row12 | (with_reducible refine hp_last ?_; · simp) | (with_reducible refine hp_set ?_ ?_; · first | assumption | (simp; done)) | with_reducible refine hp_drewN ?_ | with_reducible refine hp_alloc ?_)))
  clear hq
  have W1 := lt_of_heap' hx
  generalize w33 = W at *
  refine wp_region_F (fun w_ => GN W w_) GN (fun k_ v_ w_ => match k_ with
      | 0 => v_ = .bool true
      | 1 => v_ = .bool false
      | 2 => v_ = .bool false
      | 3 => v_ = .int .u32 ((s : Nat) : Int)
      | 4 => v_ = .agg (insA (decN s))
      | 5 => v_ = .agg (insA (⟨k, rd, r1, r2, r3, rm, c, sz, i, ui, us, wd⟩ : Ins))
      | 6 => v_ = .bool false
      | _ => v_ = .bool false) fol (by kernel_rfl) ?_ ?_ ?_ ?_
  · exact (GN.refl W).drew
  · intro k_ v_ w_ w2_ h1 hg
    split at h1 <;> exact h1
  · intro vals
    show wpG _ _ _ _ _ _ 0 (_ :: _) _
    refine wpG_cons (gval (.bool true) GN.refl fun w_ hJ hd => ?_) ?_
    · exact ⟨by kernel_rfl, by kernel_rfl, rfl⟩
    refine wpG_cons (gval (.bool false) GN.refl fun w_ hJ hd => ?_) ?_
    · have e0 : vals 0 = _ := hd 0 (by decide) (by kernel_rfl)
      rw [e0]
      exact ⟨by kernel_rfl, by kernel_rfl, rfl⟩
    refine wpG_cons (gval (.bool false) GN.refl fun w_ hJ hd => ?_) ?_
    · have e1 : vals 1 = _ := hd 1 (by decide) (by kernel_rfl)
      rw [e1]
      exact ⟨by kernel_rfl, by kernel_rfl, rfl⟩
    refine wpG_cons (gval (.int .u32 ((s : Nat) : Int)) GN.refl fun w_ hJ hd => ?_) ?_
    · have e2 : vals 2 = _ := hd 2 (by decide) (by kernel_rfl)
      rw [e2]
      exact ⟨by kernel_rfl, by kernel_rfl, rfl⟩
    refine wpG_cons (gcall 10 #[.int .u32 ((s : Nat) : Int)] fun w_ hJ hd => ?_) ?_
    · have e3 : vals 3 = _ := hd 3 (by decide) (by kernel_rfl)
      have e2 : vals 2 = _ := hd 2 (by decide) (by kernel_rfl)
      rw [e3, e2]
      exact ⟨by kernel_rfl, by kernel_rfl, (decode_any s hs w_).mono fun e w2 ⟨he, hq⟩ => ⟨_, he, GN.trans hJ hq, hq, rfl⟩⟩
    refine wpG_cons (gop (Instr.loadAt 25 (.pointer (some ⟨w.heap.size, 0, none⟩))) (.agg (insA (⟨k, rd, r1, r2, r3, rm, c, sz, i, ui, us, wd⟩ : Ins))) GN.refl fun w_ hJ hd => ?_) ?_
    · have e2 : vals 2 = _ := hd 2 (by decide) (by kernel_rfl)
      rw [e2]
      exact ⟨by kernel_rfl, by kernel_rfl, run_loadRow (GN.heap hJ hx), rfl⟩
    refine wpG_cons (gop ((do eqGuard .neq 25 (.tmp 15) (.tmp 16) (.agg (insA (decN s))) (.agg (insA (⟨k, rd, r1, r2, r3, rm, c, sz, i, ui, us, wd⟩ : Ins))); binOp .neq 25 (.agg (insA (decN s))) (.agg (insA (⟨k, rd, r1, r2, r3, rm, c, sz, i, ui, us, wd⟩ : Ins))))) (.bool false) GN.refl fun w_ hJ hd => ?_) ?_
    · have e4 : vals 4 = _ := hd 4 (by decide) (by kernel_rfl)
      have e5 : vals 5 = _ := hd 5 (by decide) (by kernel_rfl)
      have e2 : vals 2 = _ := hd 2 (by decide) (by kernel_rfl)
      rw [e4, e5, e2]
      exact ⟨by kernel_rfl, by kernel_rfl, eqg25 (unhide HB w_), rfl⟩
    refine wpG_cons (gval (.bool false) GN.refl fun w_ hJ hd => ?_) wpG_nil
    · have e2 : vals 2 = _ := hd 2 (by decide) (by kernel_rfl)
      have e6 : vals 6 = _ := hd 6 (by decide) (by kernel_rfl)
      rw [e2, e6]
      exact ⟨by kernel_rfl, by kernel_rfl, rfl⟩
  intro vals w_ hJ hf
  have e0 : vals 0 = _ := hf 0 (by decide)
  have e1 : vals 1 = _ := hf 1 (by decide)
  have e2 : vals 2 = _ := hf 2 (by decide)
  have e3 : vals 3 = _ := hf 3 (by decide)
  have e4 : vals 4 = _ := hf 4 (by decide)
  have e5 : vals 5 = _ := hf 5 (by decide)
  have e6 : vals 6 = _ := hf 6 (by decide)
  have e7 : vals 7 = _ := hf 7 (by decide)
  simp only [fillG, Nat.zero_add, Nat.reduceAdd, e0, e1, e2, e3, e4, e5, e6, e7, Act.put, List.setIfInBounds_toArray, List.set_cons_succ, List.set_cons_zero]
  clear e0 e1 e2 e3 e4 e5 e6 e7 hf
  go_wp2
  go_ret2
  exact ⟨rfl, GN.trans hgn hJ⟩
set_option maxRecDepth 100000 in
set_option maxHeartbeats 4000000 in
theorem enc_true (k rd r1 r2 r3 rm c sz i : Int) (ui us wd : Bool) (hw : WFI (⟨k, rd, r1, r2, r3, rm, c, sz, i, ui, us, wd⟩ : Ins)) (w : World) (s : Nat) (hF : formN k rd r1 r2 r3 rm c sz i ui us wd = (s, true)) (hd : decN s ≠ (⟨k, rd, r1, r2, r3, rm, c, sz, i, ui, us, wd⟩ : Ins)) : Calls Try.prog 12 #[.agg #[.int .i64 k, .int .i64 rd, .int .i64 r1, .int .i64 r2, .int .i64 r3, .int .i64 rm, .int .i64 c, .int .i64 sz, .int .i64 i, .bool ui, .bool us, .bool wd]] w fun e w' => e = .returned (.tuple #[.int .u32 0, .bool false]) ∧ GN w w' := by
  have hi := hw.imm
  have hz := hw.size
  have hs : s < 4294967296 := by
    have := formN_lt k rd r1 r2 r3 rm c sz i ui us wd
    rw [hF] at this
    exact this
  have HB : Hid (∀ w : World, (binOp .neq 25 (.agg (insA (decN s))) (.agg (insA (⟨k, rd, r1, r2, r3, rm, c, sz, i, ui, us, wd⟩ : Ins)))).run Try.prog w = .ok (.bool true) w) := fun w => by
    rw [neq25 (dec_wf s) hw, decide_eq_false hd]; rfl
  clear hd
  go_enter Try.func12, Try.ntmps12
  go_upto_region 2 with (go_at_call 33; refine (form_any _ _ _ _ _ _ _ _ _ (by assumption) (by assumption) _ _ _ _).mono ?_; rw [hF]; rintro _ w33 ⟨rfl, hq⟩)
  have hgn : GN w w33 := GN.trans (by (repeat (first | with_reducible exact GN.refl _ | with_reducible assumption | (with_reducible refine GN.set ?_ ?_ _ _; rotate_left; · first | assumption | (simp; done)) | with_reducible refine GN.alloc ?_ _ | with_reducible refine GN.drewN ?_ _))) hq
  have hx := GN.heap hq (o := .cells #[.int .i64 k, .int .i64 rd, .int .i64 r1, .int .i64 r2, .int .i64 r3, .int .i64 rm, .int .i64 c, .int .i64 sz, .int .i64 i, .bool ui, .bool us, .bool wd] 25) (b := w.heap.size) (by (repeat (first | with_reducible assumption | with_reducible apply hp_row12 | (with_reducible refine hp_last ?_; · simp) | (with_reducible refine hp_set ?_ ?_; · first | assumption | (simp; done)) | with_reducible refine hp_drewN ?_ | with_reducible refine hp_alloc ?_)))
  clear hq
  have W1 := lt_of_heap' hx
  generalize w33 = W at *
  refine wp_region_F (fun w_ => GN W w_) GN (fun k_ v_ w_ => match k_ with
      | 0 => v_ = .bool true
      | 1 => v_ = .bool false
      | 2 => v_ = .bool false
      | 3 => v_ = .int .u32 ((s : Nat) : Int)
      | 4 => v_ = .agg (insA (decN s))
      | 5 => v_ = .agg (insA (⟨k, rd, r1, r2, r3, rm, c, sz, i, ui, us, wd⟩ : Ins))
      | 6 => v_ = .bool true
      | _ => v_ = .bool true) fol (by kernel_rfl) ?_ ?_ ?_ ?_
  · exact (GN.refl W).drew
  · intro k_ v_ w_ w2_ h1 hg
    split at h1 <;> exact h1
  · intro vals
    show wpG _ _ _ _ _ _ 0 (_ :: _) _
    refine wpG_cons (gval (.bool true) GN.refl fun w_ hJ hd => ?_) ?_
    · exact ⟨by kernel_rfl, by kernel_rfl, rfl⟩
    refine wpG_cons (gval (.bool false) GN.refl fun w_ hJ hd => ?_) ?_
    · have e0 : vals 0 = _ := hd 0 (by decide) (by kernel_rfl)
      rw [e0]
      exact ⟨by kernel_rfl, by kernel_rfl, rfl⟩
    refine wpG_cons (gval (.bool false) GN.refl fun w_ hJ hd => ?_) ?_
    · have e1 : vals 1 = _ := hd 1 (by decide) (by kernel_rfl)
      rw [e1]
      exact ⟨by kernel_rfl, by kernel_rfl, rfl⟩
    refine wpG_cons (gval (.int .u32 ((s : Nat) : Int)) GN.refl fun w_ hJ hd => ?_) ?_
    · have e2 : vals 2 = _ := hd 2 (by decide) (by kernel_rfl)
      rw [e2]
      exact ⟨by kernel_rfl, by kernel_rfl, rfl⟩
    refine wpG_cons (gcall 10 #[.int .u32 ((s : Nat) : Int)] fun w_ hJ hd => ?_) ?_
    · have e3 : vals 3 = _ := hd 3 (by decide) (by kernel_rfl)
      have e2 : vals 2 = _ := hd 2 (by decide) (by kernel_rfl)
      rw [e3, e2]
      exact ⟨by kernel_rfl, by kernel_rfl, (decode_any s hs w_).mono fun e w2 ⟨he, hq⟩ => ⟨_, he, GN.trans hJ hq, hq, rfl⟩⟩
    refine wpG_cons (gop (Instr.loadAt 25 (.pointer (some ⟨w.heap.size, 0, none⟩))) (.agg (insA (⟨k, rd, r1, r2, r3, rm, c, sz, i, ui, us, wd⟩ : Ins))) GN.refl fun w_ hJ hd => ?_) ?_
    · have e2 : vals 2 = _ := hd 2 (by decide) (by kernel_rfl)
      rw [e2]
      exact ⟨by kernel_rfl, by kernel_rfl, run_loadRow (GN.heap hJ hx), rfl⟩
    refine wpG_cons (gop ((do eqGuard .neq 25 (.tmp 15) (.tmp 16) (.agg (insA (decN s))) (.agg (insA (⟨k, rd, r1, r2, r3, rm, c, sz, i, ui, us, wd⟩ : Ins))); binOp .neq 25 (.agg (insA (decN s))) (.agg (insA (⟨k, rd, r1, r2, r3, rm, c, sz, i, ui, us, wd⟩ : Ins))))) (.bool true) GN.refl fun w_ hJ hd => ?_) ?_
    · have e4 : vals 4 = _ := hd 4 (by decide) (by kernel_rfl)
      have e5 : vals 5 = _ := hd 5 (by decide) (by kernel_rfl)
      have e2 : vals 2 = _ := hd 2 (by decide) (by kernel_rfl)
      rw [e4, e5, e2]
      exact ⟨by kernel_rfl, by kernel_rfl, eqg25 (unhide HB w_), rfl⟩
    refine wpG_cons (gval (.bool true) GN.refl fun w_ hJ hd => ?_) wpG_nil
    · have e2 : vals 2 = _ := hd 2 (by decide) (by kernel_rfl)
      have e6 : vals 6 = _ := hd 6 (by decide) (by kernel_rfl)
      rw [e2, e6]
      exact ⟨by kernel_rfl, by kernel_rfl, rfl⟩
  intro vals w_ hJ hf
  have e0 : vals 0 = _ := hf 0 (by decide)
  have e1 : vals 1 = _ := hf 1 (by decide)
  have e2 : vals 2 = _ := hf 2 (by decide)
  have e3 : vals 3 = _ := hf 3 (by decide)
  have e4 : vals 4 = _ := hf 4 (by decide)
  have e5 : vals 5 = _ := hf 5 (by decide)
  have e6 : vals 6 = _ := hf 6 (by decide)
  have e7 : vals 7 = _ := hf 7 (by decide)
  simp only [fillG, Nat.zero_add, Nat.reduceAdd, e0, e1, e2, e3, e4, e5, e6, e7, Act.put, List.setIfInBounds_toArray, List.set_cons_succ, List.set_cons_zero]
  clear e0 e1 e2 e3 e4 e5 e6 e7 hf
  go_wp2
  go_ret2
  exact ⟨rfl, GN.trans hgn hJ⟩
theorem encode_any (x : Ins) (hw : WFI x) (w : World) : Calls Try.prog 12 #[insV x] w fun e w' => e = .returned (.tuple #[.int .u32 ((encN x).1 : Nat), .bool (encN x).2]) ∧ GN w w' := by
  obtain ⟨k, rd, r1, r2, r3, rm, c, sz, i, ui, us, wd⟩ := x
  cases hF : formI (⟨k, rd, r1, r2, r3, rm, c, sz, i, ui, us, wd⟩ : Ins) with
  | mk s ok =>
    unfold encN
    rw [hF]
    cases ok with
    | false =>
      rw [if_neg (by simp)]
      exact enc_no k rd r1 r2 r3 rm c sz i ui us wd hw w (by show (formI (⟨k, rd, r1, r2, r3, rm, c, sz, i, ui, us, wd⟩ : Ins)).2 = false; rw [hF])
    | true =>
      by_cases hd : decN s = (⟨k, rd, r1, r2, r3, rm, c, sz, i, ui, us, wd⟩ : Ins)
      · rw [if_pos ⟨rfl, hd⟩]
        exact enc_false k rd r1 r2 r3 rm c sz i ui us wd hw w s hF hd
      · rw [if_neg (fun h => hd h.2)]
        exact enc_true k rd r1 r2 r3 rm c sz i ui us wd hw w s hF hd
end Go.Proofs.Ytopbdiekfhikmaa
