/- Layer 3: there and back, walked. -/
import Derived.Test.YtopbdiekfhikmaaM2
namespace Go.Proofs.Ytopbdiekfhikmaa
open Go.RowKit
theorem enc_call0 {x : Ins} (hw : WFI x) (h : encN x = (0, false)) (w : World) : Calls Try.prog 12 #[.agg (insA x)] w fun e w' => e = .returned (.tuple #[.int .u32 0, .bool false]) ∧ GN w w' := by
  have := encode_any x hw w
  rw [h] at this
  exact this
theorem neq_same {x : Ins} (h : WFI x) {s t : Operand} (w : World) : (do eqGuard .neq 25 s t (.agg (insA x)) (.agg (insA x)); binOp .neq 25 (.agg (insA x)) (.agg (insA x)) : Sem Value).run Try.prog w = .ok (.bool false) w :=
  eqg25 (by rw [neq25 h h w, decide_eq_true rfl]; rfl)
theorem dec_callA {b : Nat} (hb : b < 4294967296) {x : Ins} (hx : decN b = x) {W w : World} (hJ : GN W w) : Calls Try.prog 10 #[.int .u32 (b : Int)] w fun e w' => ∃ u, e = .returned u ∧ GN W w' ∧ GN w w' ∧ u = .agg (insA x) :=
  (decode_any b hb w).mono fun _ _ ⟨he, hq⟩ => ⟨_, he, hJ.trans hq, hq, by rw [hx]; rfl⟩
/-- Where there is none the whole is zero. -/
def K0 (x : Ins) : Prop := x.kind = 0 → x = zero
theorem K0.no {x : Ins} (h : x.kind ≠ 0) : K0 x := fun h' => absurd h' h
theorem K0.nul : K0 zero := fun _ => rfl
theorem K0.ite {p : Prop} [Decidable p] {x y : Ins} (h1 : p → K0 x) (h2 : ¬ p → K0 y) : K0 (if p then x else y) := by
  split
  · exact h1 ‹_›
  · exact h2 ‹_›
theorem k0_round {f : Nat} {x : Ins} (h : x.kind ≠ 0) : K0 (roundN f x) := by
  unfold roundN
  exact K0.ite (fun _ => K0.nul) (fun _ => K0.no h)
theorem k0_reg {f g rd r1 r2 : Nat} {s : Bool} (hf : f < 8) : K0 (regK f g rd r1 r2 s) := by
  obtain ⟨p1, p2, p3, p4, p5⟩ := sumK_place hf
  unfold regK regX
  repeat' (first | exact K0.nul | refine K0.ite (fun _ => ?_) (fun _ => ?_) | (refine K0.no ?_; dsimp only; omega))
theorem k0_imm {f hi sh rd r1 : Nat} {i : Int} {s : Bool} (hf : f < 8) : K0 (immK f hi sh rd r1 i s) := by
  obtain ⟨p1, p2, p3, p4, p5⟩ := sumK_place hf
  unfold immK immX
  repeat' (first | exact K0.nul | refine K0.ite (fun _ => ?_) (fun _ => ?_) | (refine K0.no ?_; dsimp only; omega))
theorem k0_sys {b f g rd r1 r2 c : Nat} : K0 (sysK b f g rd r1 r2 c) := by
  unfold sysK
  repeat' (first | exact K0.nul | refine K0.ite (fun _ => ?_) (fun _ => ?_) | (refine K0.no ?_; dsimp only; omega))
theorem k0_atom {f h rd r1 r2 : Nat} : K0 (atomI f h rd r1 r2) := by
  unfold atomI
  refine K0.ite (fun _ => K0.nul) (fun hn => K0.no ?_)
  dsimp only
  omega
theorem k0_oper {f h s rd r1 r2 : Nat} {sz : Int} : K0 (operK f h s rd r1 r2 sz) := by
  unfold operK opX
  repeat' (first | exact K0.nul | refine K0.ite (fun _ => ?_) (fun _ => ?_) | (refine k0_round ?_; dsimp only; omega) | (refine K0.no ?_; dsimp only; omega))
theorem k0_fall (x : Ins) : K0 (fallN x) := by
  unfold fallN
  exact K0.ite (fun _ => K0.nul) (fun h => K0.no h)
theorem k0_dec (b : Nat) : K0 (decN b) := by
  have hf : fd b 12 3 < 8 := Nat.mod_lt _ (by decide)
  unfold decN decK
  repeat' (first | exact k0_fall _ | exact k0_reg hf | exact k0_imm hf | exact k0_sys | exact k0_atom | refine K0.ite (fun _ => ?_) (fun _ => ?_) | (refine K0.no ?_; dsimp only; omega))
theorem enc_yes {x : Ins} {s : Nat} (h : encN x = (s, true)) : decN s = x ∧ s < 4294967296 ∧ x.kind ≠ 0 := by
  unfold encN at h
  split at h
  · rename_i hc
    injection h with h1 _
    subst h1
    refine ⟨hc.2, formN_lt _ _ _ _ _ _ _ _ _ _ _ _, fun hk => ?_⟩
    have hz : x = zero := by
      have := k0_dec (formI x).1
      rw [hc.2] at this
      exact this hk
    have h3 := hc.1
    rw [hz, form_zero] at h3
    cases h3
  · injection h with _ h2
    cases h2
theorem enc_not {x : Ins} {s : Nat} (h : encN x = (s, false)) : s = 0 := by
  unfold encN at h
  split at h
  · injection h with _ h2
    cases h2
  · injection h with h1 _
    exact h1.symm
theorem andnot_run {c b : Nat} (h : bits .andNot .u32 (c : Int) (b : Int) = 0) (w : World) : (binOp .andNot 22 (.int .u32 (c : Int)) (.int .u32 (b : Int))).run Try.prog w = .ok (.int .u32 0) w := by
  have e : (binOp .andNot 22 (.int .u32 (c : Int)) (.int .u32 (b : Int))).run Try.prog w = .ok (.int .u32 (bits .andNot .u32 (c : Int) (b : Int))) w := by kernel_rfl
  rw [e, h]
set_option maxRecDepth 100000 in
set_option maxHeartbeats 4000000 in
theorem back_yy (b : Nat) (hb : b < 4294967296) (k rd r1 r2 r3 rm c sz i : Int) (ui us wd : Bool) (hw : WFI (⟨k, rd, r1, r2, r3, rm, c, sz, i, ui, us, wd⟩ : Ins)) (s : Nat) (hs : s < 4294967296) (hds : decN s = (⟨k, rd, r1, r2, r3, rm, c, sz, i, ui, us, wd⟩ : Ins)) (hk : ¬ k = 0) (hE : Hid (encN (⟨k, rd, r1, r2, r3, rm, c, sz, i, ui, us, wd⟩ : Ins) = (s, true))) (ky rdy r1y r2y r3y rmy cy szy iy : Int) (uiy usy wdy : Bool) (hwy : WFI (⟨ky, rdy, r1y, r2y, r3y, rmy, cy, szy, iy, uiy, usy, wdy⟩ : Ins)) (hy0 : decN b = (⟨ky, rdy, r1y, r2y, r3y, rmy, cy, szy, iy, uiy, usy, wdy⟩ : Ins)) (nk : (ky == 0) = false) (cc : Nat) (hcc : cc < 4294967296) (hdc : decN cc = (⟨ky, rdy, r1y, r2y, r3y, rmy, cy, szy, iy, uiy, usy, wdy⟩ : Ins)) (hz : bits .andNot .u32 (cc : Int) (b : Int) = 0) (hE2 : Hid (encN (⟨ky, rdy, r1y, r2y, r3y, rmy, cy, szy, iy, uiy, usy, wdy⟩ : Ins) = (cc, true))) (w : World) : Calls Try.prog 5 #[.int .u32 b, .agg #[.int .i64 k, .int .i64 rd, .int .i64 r1, .int .i64 r2, .int .i64 r3, .int .i64 rm, .int .i64 c, .int .i64 sz, .int .i64 i, .bool ui, .bool us, .bool wd]] w fun e w' => e = .returned (.bool true) ∧ GN w w' := by
  go_enter Try.func5, Try.ntmps5
  go_upto_region 3 with (go_at_call 9; refine (awake_any _).mono ?_; rintro _ w9 ⟨rfl, hq9⟩)
  refine cutR (w := w) (g := w.heap.size) (x := #[.int .i64 k, .int .i64 rd, .int .i64 r1, .int .i64 r2, .int .i64 r3, .int .i64 rm, .int .i64 c, .int .i64 sz, .int .i64 i, .bool ui, .bool us, .bool wd]) (GN.trans ((GN.refl w).alloc _) hq9) (GN.heap hq9 (heap_alloc_last _ _)) fun W hgW hx => ?_
  have W1 := lt_of_heap' hx
  obtain ⟨⟨p0, q0⟩, ⟨p1, q1⟩, ⟨p2, q2⟩, ⟨p3, q3⟩, ⟨p4, q4⟩, ⟨p5, q5⟩, ⟨p6, q6⟩, ⟨p7, q7⟩, ⟨p8, q8⟩, ⟨p9, q9⟩, ⟨p10, q10⟩, ⟨p11, q11⟩⟩ := c12 hx
  go_upto_region 4 with (go_at_call 12; refine (enc_call hw (unhide hE) _).mono ?_; rintro _ w12 ⟨rfl, hq12⟩)
  clear p0 q0 p1 q1 p2 q2 p3 q3 p4 q4 p5 q5 p6 q6 p7 q7 p8 q8 p9 q9 p10 q10 p11 q11
  have hx12 := GN.heap hq12 hx
  refine cutR (w := w) (g := w.heap.size) (x := #[.int .i64 k, .int .i64 rd, .int .i64 r1, .int .i64 r2, .int .i64 r3, .int .i64 rm, .int .i64 c, .int .i64 sz, .int .i64 i, .bool ui, .bool us, .bool wd]) (GN.trans hgW hq12) hx12 fun W2 hgW2 hx2 => ?_
  clear hx hx12 hq12 hgW hq9 W1
  have hx := hx2
  refine wp_region_F (fun w_ => GN W2 w_) GN (fun k_ v_ w_ => match k_ with
      | 0 => v_ = .bool true
      | 1 => v_ = .bool true
      | 2 => v_ = .int .u32 ((s : Int))
      | 3 => v_ = .agg (insA (⟨k, rd, r1, r2, r3, rm, c, sz, i, ui, us, wd⟩ : Ins))
      | 4 => v_ = .agg (insA (⟨k, rd, r1, r2, r3, rm, c, sz, i, ui, us, wd⟩ : Ins))
      | 5 => v_ = .bool false
      | 6 => v_ = .bool false
      | 7 => v_ = .pointer (some ⟨w.heap.size, 0, none⟩)
      | 8 => v_ = .int .i64 k
      | 9 => v_ = .bool false
      | 10 => v_ = .bool false
      | 11 => v_ = .bool false
      | 12 => v_ = .bool false
      | 13 => v_ = .bool true
      | 14 => v_ = .bool false
      | 15 => v_ = .bool false
      | 16 => v_ = undef
      | 17 => v_ = undef
      | 18 => v_ = .bool false
      | _ => v_ = .bool false) fol (by kernel_rfl) ?_ ?_ ?_ ?_
  · exact (GN.refl W2).drew
  · intro k_ v_ w_ w2_ h1 hg
    split at h1 <;> exact h1
  · intro vals
    show wpG _ _ _ _ _ _ 0 (_ :: _) _
    refine wpG_cons (gval (.bool true) GN.refl fun w_ hJ hd => ?_) ?_
    · exact ⟨by kernel_rfl, by kernel_rfl, rfl⟩
    refine wpG_cons (gval (.bool true) GN.refl fun w_ hJ hd => ?_) ?_
    · have e0 : vals 0 = _ := hd 0 (by decide) (by kernel_rfl)
      rw [e0]
      exact ⟨by kernel_rfl, by kernel_rfl, rfl⟩
    refine wpG_cons (gval (.int .u32 ((s : Int))) GN.refl fun w_ hJ hd => ?_) ?_
    · have e1 : vals 1 = _ := hd 1 (by decide) (by kernel_rfl)
      rw [e1]
      exact ⟨by kernel_rfl, by kernel_rfl, rfl⟩
    refine wpG_cons (gcall 10 #[.int .u32 ((s : Int))] fun w_ hJ hd => ?_) ?_
    · have e1 : vals 1 = _ := hd 1 (by decide) (by kernel_rfl)
      have e2 : vals 2 = _ := hd 2 (by decide) (by kernel_rfl)
      rw [e1, e2]
      exact ⟨by kernel_rfl, by kernel_rfl, dec_callA hs hds hJ⟩
    refine wpG_cons (gop (Instr.loadAt 25 (.pointer (some ⟨w.heap.size, 0, none⟩))) (.agg (insA (⟨k, rd, r1, r2, r3, rm, c, sz, i, ui, us, wd⟩ : Ins))) GN.refl fun w_ hJ hd => ?_) ?_
    · have e1 : vals 1 = _ := hd 1 (by decide) (by kernel_rfl)
      rw [e1]
      exact ⟨by kernel_rfl, by kernel_rfl, run_loadRow (GN.heap hJ hx), rfl⟩
    refine wpG_cons (gop ((do eqGuard .neq 25 (.tmp 20) (.tmp 21) (.agg (insA (⟨k, rd, r1, r2, r3, rm, c, sz, i, ui, us, wd⟩ : Ins))) (.agg (insA (⟨k, rd, r1, r2, r3, rm, c, sz, i, ui, us, wd⟩ : Ins))); binOp .neq 25 (.agg (insA (⟨k, rd, r1, r2, r3, rm, c, sz, i, ui, us, wd⟩ : Ins))) (.agg (insA (⟨k, rd, r1, r2, r3, rm, c, sz, i, ui, us, wd⟩ : Ins))))) (.bool false) GN.refl fun w_ hJ hd => ?_) ?_
    · have e1 : vals 1 = _ := hd 1 (by decide) (by kernel_rfl)
      have e3 : vals 3 = _ := hd 3 (by decide) (by kernel_rfl)
      have e4 : vals 4 = _ := hd 4 (by decide) (by kernel_rfl)
      rw [e1, e3, e4]
      exact ⟨by kernel_rfl, by kernel_rfl, neq_same hw w_, rfl⟩
    refine wpG_cons (gval (.bool false) GN.refl fun w_ hJ hd => ?_) ?_
    · have e1 : vals 1 = _ := hd 1 (by decide) (by kernel_rfl)
      have e5 : vals 5 = _ := hd 5 (by decide) (by kernel_rfl)
      rw [e1, e5]
      exact ⟨by kernel_rfl, by kernel_rfl, rfl⟩
    refine wpG_cons (gval (.pointer (some ⟨w.heap.size, 0, none⟩)) GN.refl fun w_ hJ hd => ?_) ?_
    · have e6 : vals 6 = _ := hd 6 (by decide) (by kernel_rfl)
      rw [e6]
      exact ⟨by kernel_rfl, by kernel_rfl, rfl⟩
    refine wpG_cons (gop (Instr.loadAt 3 (.pointer (some ⟨w.heap.size, 0, none⟩))) (.int .i64 k) GN.refl fun w_ hJ hd => ?_) ?_
    · have e6 : vals 6 = _ := hd 6 (by decide) (by kernel_rfl)
      have e7 : vals 7 = _ := hd 7 (by decide) (by kernel_rfl)
      rw [e6, e7]
      exact ⟨by kernel_rfl, by kernel_rfl, run_load1 (by kernel_rfl) (c12 (GN.heap hJ hx)).1.1, rfl⟩
    refine wpG_cons (gop (binOp .eql 3 (.int .i64 k) (.int .i64 0)) (.bool false) GN.refl fun w_ hJ hd => ?_) ?_
    · have e6 : vals 6 = _ := hd 6 (by decide) (by kernel_rfl)
      have e8 : vals 8 = _ := hd 8 (by decide) (by kernel_rfl)
      rw [e6, e8]
      exact ⟨by kernel_rfl, by kernel_rfl, eql3f hk w_, rfl⟩
    refine wpG_cons (gval (.bool false) GN.refl fun w_ hJ hd => ?_) ?_
    · have e1 : vals 1 = _ := hd 1 (by decide) (by kernel_rfl)
      have e6 : vals 6 = _ := hd 6 (by decide) (by kernel_rfl)
      have e9 : vals 9 = _ := hd 9 (by decide) (by kernel_rfl)
      rw [e1, e6, e9]
      exact ⟨by kernel_rfl, by kernel_rfl, rfl⟩
    refine wpG_cons (gval (.bool false) GN.refl fun w_ hJ hd => ?_) ?_
    · have e1 : vals 1 = _ := hd 1 (by decide) (by kernel_rfl)
      have e10 : vals 10 = _ := hd 10 (by decide) (by kernel_rfl)
      rw [e1, e10]
      exact ⟨by kernel_rfl, by kernel_rfl, rfl⟩
    refine wpG_cons (gval (.bool false) GN.refl fun w_ hJ hd => ?_) ?_
    · have e11 : vals 11 = _ := hd 11 (by decide) (by kernel_rfl)
      rw [e11]
      exact ⟨by kernel_rfl, by kernel_rfl, rfl⟩
    refine wpG_cons (gval (.bool true) GN.refl fun w_ hJ hd => ?_) ?_
    · have e12 : vals 12 = _ := hd 12 (by decide) (by kernel_rfl)
      rw [e12]
      exact ⟨by kernel_rfl, by kernel_rfl, rfl⟩
    refine wpG_cons (gval (.bool false) GN.refl fun w_ hJ hd => ?_) ?_
    · have e12 : vals 12 = _ := hd 12 (by decide) (by kernel_rfl)
      have e13 : vals 13 = _ := hd 13 (by decide) (by kernel_rfl)
      rw [e12, e13]
      exact ⟨by kernel_rfl, by kernel_rfl, rfl⟩
    refine wpG_cons (gval (.bool false) GN.refl fun w_ hJ hd => ?_) ?_
    · have e12 : vals 12 = _ := hd 12 (by decide) (by kernel_rfl)
      have e14 : vals 14 = _ := hd 14 (by decide) (by kernel_rfl)
      rw [e12, e14]
      exact ⟨by kernel_rfl, by kernel_rfl, rfl⟩
    refine wpG_cons (gskip fun w_ hJ hd => ?_) ?_
    · have e15 : vals 15 = _ := hd 15 (by decide) (by kernel_rfl)
      rw [e15]
      exact ⟨by kernel_rfl, rfl⟩
    refine wpG_cons (gskip fun w_ hJ hd => ?_) ?_
    · have e15 : vals 15 = _ := hd 15 (by decide) (by kernel_rfl)
      rw [e15]
      exact ⟨by kernel_rfl, rfl⟩
    refine wpG_cons (gval (.bool false) GN.refl fun w_ hJ hd => ?_) ?_
    · have e12 : vals 12 = _ := hd 12 (by decide) (by kernel_rfl)
      have e15 : vals 15 = _ := hd 15 (by decide) (by kernel_rfl)
      rw [e12, e15]
      exact ⟨by kernel_rfl, by kernel_rfl, rfl⟩
    refine wpG_cons (gval (.bool false) GN.refl fun w_ hJ hd => ?_) wpG_nil
    · have e12 : vals 12 = _ := hd 12 (by decide) (by kernel_rfl)
      have e18 : vals 18 = _ := hd 18 (by decide) (by kernel_rfl)
      rw [e12, e18]
      exact ⟨by kernel_rfl, by kernel_rfl, rfl⟩
  intro vals w_ hJ hf
  have e0 : vals 0 = _ := hf 0 (by decide)
  have e1 : vals 1 = _ := hf 1 (by decide)
  have e2 : vals 2 = _ := hf 2 (by decide)
  have e3 : vals 3 = _ := hf 3 (by decide)
  have e4 : vals 4 = _ := hf 4 (by decide)
  have e5 : vals 5 = _ := hf 5 (by decide)
  have e6 : vals 6 = _ := hf 6 (by decide)
  have e7 : vals 7 = _ := hf 7 (by decide)
  have e8 : vals 8 = _ := hf 8 (by decide)
  have e9 : vals 9 = _ := hf 9 (by decide)
  have e10 : vals 10 = _ := hf 10 (by decide)
  have e11 : vals 11 = _ := hf 11 (by decide)
  have e12 : vals 12 = _ := hf 12 (by decide)
  have e13 : vals 13 = _ := hf 13 (by decide)
  have e14 : vals 14 = _ := hf 14 (by decide)
  have e15 : vals 15 = _ := hf 15 (by decide)
  have e16 : vals 16 = _ := hf 16 (by decide)
  have e17 : vals 17 = _ := hf 17 (by decide)
  have e18 : vals 18 = _ := hf 18 (by decide)
  have e19 : vals 19 = _ := hf 19 (by decide)
  simp only [fillG, Nat.zero_add, Nat.reduceAdd, e0, e1, e2, e3, e4, e5, e6, e7, e8, e9, e10, e11, e12, e13, e14, e15, e16, e17, e18, e19, Act.put, List.setIfInBounds_toArray, List.set_cons_succ, List.set_cons_zero]
  clear e0 e1 e2 e3 e4 e5 e6 e7 e8 e9 e10 e11 e12 e13 e14 e15 e16 e17 e18 e19 hf
  go_upto_region 7 with (go_at_call 10; refine (dec_call hb hy0 _).mono ?_; rintro _ w10 ⟨rfl, hq10⟩)
  refine cutR (w := w) (g := w10.heap.size) (x := #[.int .i64 ky, .int .i64 rdy, .int .i64 r1y, .int .i64 r2y, .int .i64 r3y, .int .i64 rmy, .int .i64 cy, .int .i64 szy, .int .i64 iy, .bool uiy, .bool usy, .bool wdy]) (GN.alloc (GN.trans (GN.trans hgW2 hJ) hq10) _) (heap_alloc_last _ _) fun W3 hgW3 hy => ?_
  generalize w10.heap.size = g at *
  have W4 := lt_of_heap' hy
  obtain ⟨⟨p0, q0⟩, ⟨p1, q1⟩, ⟨p2, q2⟩, ⟨p3, q3⟩, ⟨p4, q4⟩, ⟨p5, q5⟩, ⟨p6, q6⟩, ⟨p7, q7⟩, ⟨p8, q8⟩, ⟨p9, q9⟩, ⟨p10, q10⟩, ⟨p11, q11⟩⟩ := c12 hy
  go_upto_region 8 with (go_at_call 12; refine (enc_call hwy (unhide hE2) _).mono ?_; rintro _ w12 ⟨rfl, hq12⟩)
  clear p0 q0 p1 q1 p2 q2 p3 q3 p4 q4 p5 q5 p6 q6 p7 q7 p8 q8 p9 q9 p10 q10 p11 q11
  have hy12 := GN.heap hq12 hy
  refine cutR (w := w) (g := g) (x := #[.int .i64 ky, .int .i64 rdy, .int .i64 r1y, .int .i64 r2y, .int .i64 r3y, .int .i64 rmy, .int .i64 cy, .int .i64 szy, .int .i64 iy, .bool uiy, .bool usy, .bool wdy]) (GN.trans hgW3 hq12) hy12 fun W5 hgW5 hy5 => ?_
  clear hy hy12 hq12 hgW3
  have hy := hy5
  obtain ⟨⟨p0, q0⟩, ⟨p1, q1⟩, ⟨p2, q2⟩, ⟨p3, q3⟩, ⟨p4, q4⟩, ⟨p5, q5⟩, ⟨p6, q6⟩, ⟨p7, q7⟩, ⟨p8, q8⟩, ⟨p9, q9⟩, ⟨p10, q10⟩, ⟨p11, q11⟩⟩ := c12 hy
  go_upto_region 10 with fail
  clear p0 q0 p1 q1 p2 q2 p3 q3 p4 q4 p5 q5 p6 q6 p7 q7 p8 q8 p9 q9 p10 q10 p11 q11
  refine wp_region_F (fun w_ => GN W5 w_) GN (fun k_ v_ w_ => match k_ with
      | 0 => v_ = .bool true
      | 1 => v_ = .bool true
      | 2 => v_ = .int .u32 ((cc : Int))
      | 3 => v_ = .agg (insA (⟨ky, rdy, r1y, r2y, r3y, rmy, cy, szy, iy, uiy, usy, wdy⟩ : Ins))
      | 4 => v_ = .agg (insA (⟨ky, rdy, r1y, r2y, r3y, rmy, cy, szy, iy, uiy, usy, wdy⟩ : Ins))
      | 5 => v_ = .bool true
      | 6 => v_ = .bool true
      | 7 => v_ = .bool true
      | 8 => v_ = .int .u32 ((cc : Int))
      | 9 => v_ = .int .u32 ((b : Int))
      | 10 => v_ = .int .u32 0
      | 11 => v_ = .bool true
      | 12 => v_ = .bool true
      | _ => v_ = .bool true) fol (by kernel_rfl) ?_ ?_ ?_ ?_
  · exact (GN.refl W5).drew
  · intro k_ v_ w_ w2_ h1 hg
    split at h1 <;> exact h1
  · intro vals
    show wpG _ _ _ _ _ _ 0 (_ :: _) _
    refine wpG_cons (gval (.bool true) GN.refl fun w_ hJ hd => ?_) ?_
    · exact ⟨by kernel_rfl, by kernel_rfl, rfl⟩
    refine wpG_cons (gval (.bool true) GN.refl fun w_ hJ hd => ?_) ?_
    · have e0 : vals 0 = _ := hd 0 (by decide) (by kernel_rfl)
      rw [e0]
      exact ⟨by kernel_rfl, by kernel_rfl, rfl⟩
    refine wpG_cons (gval (.int .u32 ((cc : Int))) GN.refl fun w_ hJ hd => ?_) ?_
    · have e1 : vals 1 = _ := hd 1 (by decide) (by kernel_rfl)
      rw [e1]
      exact ⟨by kernel_rfl, by kernel_rfl, rfl⟩
    refine wpG_cons (gcall 10 #[.int .u32 ((cc : Int))] fun w_ hJ hd => ?_) ?_
    · have e1 : vals 1 = _ := hd 1 (by decide) (by kernel_rfl)
      have e2 : vals 2 = _ := hd 2 (by decide) (by kernel_rfl)
      rw [e1, e2]
      exact ⟨by kernel_rfl, by kernel_rfl, dec_callA hcc hdc hJ⟩
    refine wpG_cons (gop (Instr.loadAt 25 (.pointer (some ⟨g, 0, none⟩))) (.agg (insA (⟨ky, rdy, r1y, r2y, r3y, rmy, cy, szy, iy, uiy, usy, wdy⟩ : Ins))) GN.refl fun w_ hJ hd => ?_) ?_
    · have e1 : vals 1 = _ := hd 1 (by decide) (by kernel_rfl)
      rw [e1]
      exact ⟨by kernel_rfl, by kernel_rfl, run_loadRow (GN.heap hJ hy), rfl⟩
    refine wpG_cons (gop ((do eqGuard .eql 25 (.tmp 61) (.tmp 62) (.agg (insA (⟨ky, rdy, r1y, r2y, r3y, rmy, cy, szy, iy, uiy, usy, wdy⟩ : Ins))) (.agg (insA (⟨ky, rdy, r1y, r2y, r3y, rmy, cy, szy, iy, uiy, usy, wdy⟩ : Ins))); binOp .eql 25 (.agg (insA (⟨ky, rdy, r1y, r2y, r3y, rmy, cy, szy, iy, uiy, usy, wdy⟩ : Ins))) (.agg (insA (⟨ky, rdy, r1y, r2y, r3y, rmy, cy, szy, iy, uiy, usy, wdy⟩ : Ins))))) (.bool true) GN.refl fun w_ hJ hd => ?_) ?_
    · have e1 : vals 1 = _ := hd 1 (by decide) (by kernel_rfl)
      have e3 : vals 3 = _ := hd 3 (by decide) (by kernel_rfl)
      have e4 : vals 4 = _ := hd 4 (by decide) (by kernel_rfl)
      rw [e1, e3, e4]
      exact ⟨by kernel_rfl, by kernel_rfl, eq_same hwy w_, rfl⟩
    refine wpG_cons (gval (.bool true) GN.refl fun w_ hJ hd => ?_) ?_
    · have e1 : vals 1 = _ := hd 1 (by decide) (by kernel_rfl)
      have e5 : vals 5 = _ := hd 5 (by decide) (by kernel_rfl)
      rw [e1, e5]
      exact ⟨by kernel_rfl, by kernel_rfl, rfl⟩
    refine wpG_cons (gval (.bool true) GN.refl fun w_ hJ hd => ?_) ?_
    · have e6 : vals 6 = _ := hd 6 (by decide) (by kernel_rfl)
      rw [e6]
      exact ⟨by kernel_rfl, by kernel_rfl, rfl⟩
    refine wpG_cons (gval (.int .u32 ((cc : Int))) GN.refl fun w_ hJ hd => ?_) ?_
    · have e7 : vals 7 = _ := hd 7 (by decide) (by kernel_rfl)
      rw [e7]
      exact ⟨by kernel_rfl, by kernel_rfl, rfl⟩
    refine wpG_cons (gval (.int .u32 ((b : Int))) GN.refl fun w_ hJ hd => ?_) ?_
    · have e7 : vals 7 = _ := hd 7 (by decide) (by kernel_rfl)
      rw [e7]
      exact ⟨by kernel_rfl, by kernel_rfl, rfl⟩
    refine wpG_cons (gop (binOp .andNot 22 (.int .u32 ((cc : Int))) (.int .u32 ((b : Int)))) (.int .u32 0) GN.refl fun w_ hJ hd => ?_) ?_
    · have e7 : vals 7 = _ := hd 7 (by decide) (by kernel_rfl)
      have e8 : vals 8 = _ := hd 8 (by decide) (by kernel_rfl)
      have e9 : vals 9 = _ := hd 9 (by decide) (by kernel_rfl)
      rw [e7, e8, e9]
      exact ⟨by kernel_rfl, by kernel_rfl, andnot_run hz w_, rfl⟩
    refine wpG_cons (gval (.bool true) GN.refl fun w_ hJ hd => ?_) ?_
    · have e7 : vals 7 = _ := hd 7 (by decide) (by kernel_rfl)
      have e10 : vals 10 = _ := hd 10 (by decide) (by kernel_rfl)
      rw [e7, e10]
      exact ⟨by kernel_rfl, by kernel_rfl, rfl⟩
    refine wpG_cons (gval (.bool true) GN.refl fun w_ hJ hd => ?_) ?_
    · have e7 : vals 7 = _ := hd 7 (by decide) (by kernel_rfl)
      have e11 : vals 11 = _ := hd 11 (by decide) (by kernel_rfl)
      rw [e7, e11]
      exact ⟨by kernel_rfl, by kernel_rfl, rfl⟩
    refine wpG_cons (gval (.bool true) GN.refl fun w_ hJ hd => ?_) wpG_nil
    · have e12 : vals 12 = _ := hd 12 (by decide) (by kernel_rfl)
      rw [e12]
      exact ⟨by kernel_rfl, by kernel_rfl, rfl⟩
  intro vals w_ hJ hf
  have e0 : vals 0 = _ := hf 0 (by decide)
  have e1 : vals 1 = _ := hf 1 (by decide)
  have e2 : vals 2 = _ := hf 2 (by decide)
  have e3 : vals 3 = _ := hf 3 (by decide)
  have e4 : vals 4 = _ := hf 4 (by decide)
  have e5 : vals 5 = _ := hf 5 (by decide)
  have e6 : vals 6 = _ := hf 6 (by decide)
  have e7 : vals 7 = _ := hf 7 (by decide)
  have e8 : vals 8 = _ := hf 8 (by decide)
  have e9 : vals 9 = _ := hf 9 (by decide)
  have e10 : vals 10 = _ := hf 10 (by decide)
  have e11 : vals 11 = _ := hf 11 (by decide)
  have e12 : vals 12 = _ := hf 12 (by decide)
  have e13 : vals 13 = _ := hf 13 (by decide)
  simp only [fillG, Nat.zero_add, Nat.reduceAdd, e0, e1, e2, e3, e4, e5, e6, e7, e8, e9, e10, e11, e12, e13, Act.put, List.setIfInBounds_toArray, List.set_cons_succ, List.set_cons_zero]
  clear e0 e1 e2 e3 e4 e5 e6 e7 e8 e9 e10 e11 e12 e13 hf
  go_wp2
  go_ret
  exact ⟨rfl, GN.trans hgW5 (by assumption)⟩
set_option maxRecDepth 100000 in
set_option maxHeartbeats 4000000 in
theorem back_yn (b : Nat) (hb : b < 4294967296) (k rd r1 r2 r3 rm c sz i : Int) (ui us wd : Bool) (hw : WFI (⟨k, rd, r1, r2, r3, rm, c, sz, i, ui, us, wd⟩ : Ins)) (s : Nat) (hs : s < 4294967296) (hds : decN s = (⟨k, rd, r1, r2, r3, rm, c, sz, i, ui, us, wd⟩ : Ins)) (hk : ¬ k = 0) (hE : Hid (encN (⟨k, rd, r1, r2, r3, rm, c, sz, i, ui, us, wd⟩ : Ins) = (s, true))) (hwy : WFI (⟨0, 0, 0, 0, 0, 0, 0, 0, 0, false, false, false⟩ : Ins)) (hy0 : decN b = (⟨0, 0, 0, 0, 0, 0, 0, 0, 0, false, false, false⟩ : Ins)) (hE2 : Hid (encN (⟨0, 0, 0, 0, 0, 0, 0, 0, 0, false, false, false⟩ : Ins) = (0, false))) (w : World) : Calls Try.prog 5 #[.int .u32 b, .agg #[.int .i64 k, .int .i64 rd, .int .i64 r1, .int .i64 r2, .int .i64 r3, .int .i64 rm, .int .i64 c, .int .i64 sz, .int .i64 i, .bool ui, .bool us, .bool wd]] w fun e w' => e = .returned (.bool true) ∧ GN w w' := by
  go_enter Try.func5, Try.ntmps5
  go_upto_region 3 with (go_at_call 9; refine (awake_any _).mono ?_; rintro _ w9 ⟨rfl, hq9⟩)
  refine cutR (w := w) (g := w.heap.size) (x := #[.int .i64 k, .int .i64 rd, .int .i64 r1, .int .i64 r2, .int .i64 r3, .int .i64 rm, .int .i64 c, .int .i64 sz, .int .i64 i, .bool ui, .bool us, .bool wd]) (GN.trans ((GN.refl w).alloc _) hq9) (GN.heap hq9 (heap_alloc_last _ _)) fun W hgW hx => ?_
  have W1 := lt_of_heap' hx
  obtain ⟨⟨p0, q0⟩, ⟨p1, q1⟩, ⟨p2, q2⟩, ⟨p3, q3⟩, ⟨p4, q4⟩, ⟨p5, q5⟩, ⟨p6, q6⟩, ⟨p7, q7⟩, ⟨p8, q8⟩, ⟨p9, q9⟩, ⟨p10, q10⟩, ⟨p11, q11⟩⟩ := c12 hx
  go_upto_region 4 with (go_at_call 12; refine (enc_call hw (unhide hE) _).mono ?_; rintro _ w12 ⟨rfl, hq12⟩)
  clear p0 q0 p1 q1 p2 q2 p3 q3 p4 q4 p5 q5 p6 q6 p7 q7 p8 q8 p9 q9 p10 q10 p11 q11
  have hx12 := GN.heap hq12 hx
  refine cutR (w := w) (g := w.heap.size) (x := #[.int .i64 k, .int .i64 rd, .int .i64 r1, .int .i64 r2, .int .i64 r3, .int .i64 rm, .int .i64 c, .int .i64 sz, .int .i64 i, .bool ui, .bool us, .bool wd]) (GN.trans hgW hq12) hx12 fun W2 hgW2 hx2 => ?_
  clear hx hx12 hq12 hgW hq9 W1
  have hx := hx2
  refine wp_region_F (fun w_ => GN W2 w_) GN (fun k_ v_ w_ => match k_ with
      | 0 => v_ = .bool true
      | 1 => v_ = .bool true
      | 2 => v_ = .int .u32 ((s : Int))
      | 3 => v_ = .agg (insA (⟨k, rd, r1, r2, r3, rm, c, sz, i, ui, us, wd⟩ : Ins))
      | 4 => v_ = .agg (insA (⟨k, rd, r1, r2, r3, rm, c, sz, i, ui, us, wd⟩ : Ins))
      | 5 => v_ = .bool false
      | 6 => v_ = .bool false
      | 7 => v_ = .pointer (some ⟨w.heap.size, 0, none⟩)
      | 8 => v_ = .int .i64 k
      | 9 => v_ = .bool false
      | 10 => v_ = .bool false
      | 11 => v_ = .bool false
      | 12 => v_ = .bool false
      | 13 => v_ = .bool true
      | 14 => v_ = .bool false
      | 15 => v_ = .bool false
      | 16 => v_ = undef
      | 17 => v_ = undef
      | 18 => v_ = .bool false
      | _ => v_ = .bool false) fol (by kernel_rfl) ?_ ?_ ?_ ?_
  · exact (GN.refl W2).drew
  · intro k_ v_ w_ w2_ h1 hg
    split at h1 <;> exact h1
  · intro vals
    show wpG _ _ _ _ _ _ 0 (_ :: _) _
    refine wpG_cons (gval (.bool true) GN.refl fun w_ hJ hd => ?_) ?_
    · exact ⟨by kernel_rfl, by kernel_rfl, rfl⟩
    refine wpG_cons (gval (.bool true) GN.refl fun w_ hJ hd => ?_) ?_
    · have e0 : vals 0 = _ := hd 0 (by decide) (by kernel_rfl)
      rw [e0]
      exact ⟨by kernel_rfl, by kernel_rfl, rfl⟩
    refine wpG_cons (gval (.int .u32 ((s : Int))) GN.refl fun w_ hJ hd => ?_) ?_
    · have e1 : vals 1 = _ := hd 1 (by decide) (by kernel_rfl)
      rw [e1]
      exact ⟨by kernel_rfl, by kernel_rfl, rfl⟩
    refine wpG_cons (gcall 10 #[.int .u32 ((s : Int))] fun w_ hJ hd => ?_) ?_
    · have e1 : vals 1 = _ := hd 1 (by decide) (by kernel_rfl)
      have e2 : vals 2 = _ := hd 2 (by decide) (by kernel_rfl)
      rw [e1, e2]
      exact ⟨by kernel_rfl, by kernel_rfl, dec_callA hs hds hJ⟩
    refine wpG_cons (gop (Instr.loadAt 25 (.pointer (some ⟨w.heap.size, 0, none⟩))) (.agg (insA (⟨k, rd, r1, r2, r3, rm, c, sz, i, ui, us, wd⟩ : Ins))) GN.refl fun w_ hJ hd => ?_) ?_
    · have e1 : vals 1 = _ := hd 1 (by decide) (by kernel_rfl)
      rw [e1]
      exact ⟨by kernel_rfl, by kernel_rfl, run_loadRow (GN.heap hJ hx), rfl⟩
    refine wpG_cons (gop ((do eqGuard .neq 25 (.tmp 20) (.tmp 21) (.agg (insA (⟨k, rd, r1, r2, r3, rm, c, sz, i, ui, us, wd⟩ : Ins))) (.agg (insA (⟨k, rd, r1, r2, r3, rm, c, sz, i, ui, us, wd⟩ : Ins))); binOp .neq 25 (.agg (insA (⟨k, rd, r1, r2, r3, rm, c, sz, i, ui, us, wd⟩ : Ins))) (.agg (insA (⟨k, rd, r1, r2, r3, rm, c, sz, i, ui, us, wd⟩ : Ins))))) (.bool false) GN.refl fun w_ hJ hd => ?_) ?_
    · have e1 : vals 1 = _ := hd 1 (by decide) (by kernel_rfl)
      have e3 : vals 3 = _ := hd 3 (by decide) (by kernel_rfl)
      have e4 : vals 4 = _ := hd 4 (by decide) (by kernel_rfl)
      rw [e1, e3, e4]
      exact ⟨by kernel_rfl, by kernel_rfl, neq_same hw w_, rfl⟩
    refine wpG_cons (gval (.bool false) GN.refl fun w_ hJ hd => ?_) ?_
    · have e1 : vals 1 = _ := hd 1 (by decide) (by kernel_rfl)
      have e5 : vals 5 = _ := hd 5 (by decide) (by kernel_rfl)
      rw [e1, e5]
      exact ⟨by kernel_rfl, by kernel_rfl, rfl⟩
    refine wpG_cons (gval (.pointer (some ⟨w.heap.size, 0, none⟩)) GN.refl fun w_ hJ hd => ?_) ?_
    · have e6 : vals 6 = _ := hd 6 (by decide) (by kernel_rfl)
      rw [e6]
      exact ⟨by kernel_rfl, by kernel_rfl, rfl⟩
    refine wpG_cons (gop (Instr.loadAt 3 (.pointer (some ⟨w.heap.size, 0, none⟩))) (.int .i64 k) GN.refl fun w_ hJ hd => ?_) ?_
    · have e6 : vals 6 = _ := hd 6 (by decide) (by kernel_rfl)
      have e7 : vals 7 = _ := hd 7 (by decide) (by kernel_rfl)
      rw [e6, e7]
      exact ⟨by kernel_rfl, by kernel_rfl, run_load1 (by kernel_rfl) (c12 (GN.heap hJ hx)).1.1, rfl⟩
    refine wpG_cons (gop (binOp .eql 3 (.int .i64 k) (.int .i64 0)) (.bool false) GN.refl fun w_ hJ hd => ?_) ?_
    · have e6 : vals 6 = _ := hd 6 (by decide) (by kernel_rfl)
      have e8 : vals 8 = _ := hd 8 (by decide) (by kernel_rfl)
      rw [e6, e8]
      exact ⟨by kernel_rfl, by kernel_rfl, eql3f hk w_, rfl⟩
    refine wpG_cons (gval (.bool false) GN.refl fun w_ hJ hd => ?_) ?_
    · have e1 : vals 1 = _ := hd 1 (by decide) (by kernel_rfl)
      have e6 : vals 6 = _ := hd 6 (by decide) (by kernel_rfl)
      have e9 : vals 9 = _ := hd 9 (by decide) (by kernel_rfl)
      rw [e1, e6, e9]
      exact ⟨by kernel_rfl, by kernel_rfl, rfl⟩
    refine wpG_cons (gval (.bool false) GN.refl fun w_ hJ hd => ?_) ?_
    · have e1 : vals 1 = _ := hd 1 (by decide) (by kernel_rfl)
      have e10 : vals 10 = _ := hd 10 (by decide) (by kernel_rfl)
      rw [e1, e10]
      exact ⟨by kernel_rfl, by kernel_rfl, rfl⟩
    refine wpG_cons (gval (.bool false) GN.refl fun w_ hJ hd => ?_) ?_
    · have e11 : vals 11 = _ := hd 11 (by decide) (by kernel_rfl)
      rw [e11]
      exact ⟨by kernel_rfl, by kernel_rfl, rfl⟩
    refine wpG_cons (gval (.bool true) GN.refl fun w_ hJ hd => ?_) ?_
    · have e12 : vals 12 = _ := hd 12 (by decide) (by kernel_rfl)
      rw [e12]
      exact ⟨by kernel_rfl, by kernel_rfl, rfl⟩
    refine wpG_cons (gval (.bool false) GN.refl fun w_ hJ hd => ?_) ?_
    · have e12 : vals 12 = _ := hd 12 (by decide) (by kernel_rfl)
      have e13 : vals 13 = _ := hd 13 (by decide) (by kernel_rfl)
      rw [e12, e13]
      exact ⟨by kernel_rfl, by kernel_rfl, rfl⟩
    refine wpG_cons (gval (.bool false) GN.refl fun w_ hJ hd => ?_) ?_
    · have e12 : vals 12 = _ := hd 12 (by decide) (by kernel_rfl)
      have e14 : vals 14 = _ := hd 14 (by decide) (by kernel_rfl)
      rw [e12, e14]
      exact ⟨by kernel_rfl, by kernel_rfl, rfl⟩
    refine wpG_cons (gskip fun w_ hJ hd => ?_) ?_
    · have e15 : vals 15 = _ := hd 15 (by decide) (by kernel_rfl)
      rw [e15]
      exact ⟨by kernel_rfl, rfl⟩
    refine wpG_cons (gskip fun w_ hJ hd => ?_) ?_
    · have e15 : vals 15 = _ := hd 15 (by decide) (by kernel_rfl)
      rw [e15]
      exact ⟨by kernel_rfl, rfl⟩
    refine wpG_cons (gval (.bool false) GN.refl fun w_ hJ hd => ?_) ?_
    · have e12 : vals 12 = _ := hd 12 (by decide) (by kernel_rfl)
      have e15 : vals 15 = _ := hd 15 (by decide) (by kernel_rfl)
      rw [e12, e15]
      exact ⟨by kernel_rfl, by kernel_rfl, rfl⟩
    refine wpG_cons (gval (.bool false) GN.refl fun w_ hJ hd => ?_) wpG_nil
    · have e12 : vals 12 = _ := hd 12 (by decide) (by kernel_rfl)
      have e18 : vals 18 = _ := hd 18 (by decide) (by kernel_rfl)
      rw [e12, e18]
      exact ⟨by kernel_rfl, by kernel_rfl, rfl⟩
  intro vals w_ hJ hf
  have e0 : vals 0 = _ := hf 0 (by decide)
  have e1 : vals 1 = _ := hf 1 (by decide)
  have e2 : vals 2 = _ := hf 2 (by decide)
  have e3 : vals 3 = _ := hf 3 (by decide)
  have e4 : vals 4 = _ := hf 4 (by decide)
  have e5 : vals 5 = _ := hf 5 (by decide)
  have e6 : vals 6 = _ := hf 6 (by decide)
  have e7 : vals 7 = _ := hf 7 (by decide)
  have e8 : vals 8 = _ := hf 8 (by decide)
  have e9 : vals 9 = _ := hf 9 (by decide)
  have e10 : vals 10 = _ := hf 10 (by decide)
  have e11 : vals 11 = _ := hf 11 (by decide)
  have e12 : vals 12 = _ := hf 12 (by decide)
  have e13 : vals 13 = _ := hf 13 (by decide)
  have e14 : vals 14 = _ := hf 14 (by decide)
  have e15 : vals 15 = _ := hf 15 (by decide)
  have e16 : vals 16 = _ := hf 16 (by decide)
  have e17 : vals 17 = _ := hf 17 (by decide)
  have e18 : vals 18 = _ := hf 18 (by decide)
  have e19 : vals 19 = _ := hf 19 (by decide)
  simp only [fillG, Nat.zero_add, Nat.reduceAdd, e0, e1, e2, e3, e4, e5, e6, e7, e8, e9, e10, e11, e12, e13, e14, e15, e16, e17, e18, e19, Act.put, List.setIfInBounds_toArray, List.set_cons_succ, List.set_cons_zero]
  clear e0 e1 e2 e3 e4 e5 e6 e7 e8 e9 e10 e11 e12 e13 e14 e15 e16 e17 e18 e19 hf
  go_upto_region 7 with (go_at_call 10; refine (dec_call hb hy0 _).mono ?_; rintro _ w10 ⟨rfl, hq10⟩)
  refine cutR (w := w) (g := w10.heap.size) (x := insA (⟨0, 0, 0, 0, 0, 0, 0, 0, 0, false, false, false⟩ : Ins)) (GN.alloc (GN.trans (GN.trans hgW2 hJ) hq10) _) (heap_alloc_last _ _) fun W3 hgW3 hy => ?_
  generalize w10.heap.size = g at *
  have W4 := lt_of_heap' hy
  obtain ⟨⟨p0, q0⟩, ⟨p1, q1⟩, ⟨p2, q2⟩, ⟨p3, q3⟩, ⟨p4, q4⟩, ⟨p5, q5⟩, ⟨p6, q6⟩, ⟨p7, q7⟩, ⟨p8, q8⟩, ⟨p9, q9⟩, ⟨p10, q10⟩, ⟨p11, q11⟩⟩ := c12 hy
  go_upto_region 8 with (go_at_call 12; refine (enc_call0 hwy (unhide hE2) _).mono ?_; rintro _ w12 ⟨rfl, hq12⟩)
  clear p0 q0 p1 q1 p2 q2 p3 q3 p4 q4 p5 q5 p6 q6 p7 q7 p8 q8 p9 q9 p10 q10 p11 q11
  have hy12 := GN.heap hq12 hy
  refine cutR (w := w) (g := g) (x := insA (⟨0, 0, 0, 0, 0, 0, 0, 0, 0, false, false, false⟩ : Ins)) (GN.trans hgW3 hq12) hy12 fun W5 hgW5 hy5 => ?_
  clear hy hy12 hq12 hgW3
  have hy := hy5
  obtain ⟨⟨p0, q0⟩, ⟨p1, q1⟩, ⟨p2, q2⟩, ⟨p3, q3⟩, ⟨p4, q4⟩, ⟨p5, q5⟩, ⟨p6, q6⟩, ⟨p7, q7⟩, ⟨p8, q8⟩, ⟨p9, q9⟩, ⟨p10, q10⟩, ⟨p11, q11⟩⟩ := c12 hy
  go_upto_region 9 with fail
  clear p0 q0 p1 q1 p2 q2 p3 q3 p4 q4 p5 q5 p6 q6 p7 q7 p8 q8 p9 q9 p10 q10 p11 q11
  refine wp_list_O (fun w_ => w_ = W5) GN (fun k_ v_ w_ => match k_ with
      | 0 => v_ = .agg (insA (⟨0, 0, 0, 0, 0, 0, 0, 0, 0, false, false, false⟩ : Ins))
      | 1 => v_ = .agg (insA (⟨0, 0, 0, 0, 0, 0, 0, 0, 0, false, false, false⟩ : Ins))
      | 2 => v_ = .bool true
      | 3 => v_ = .bool true
      | 4 => v_ = .bool false
      | 5 => v_ = .bool true
      | 6 => v_ = .bool true
      | 7 => v_ = .bool true
      | 8 => v_ = .int .u32 0
      | 9 => v_ = .bool true
      | 10 => v_ = .bool true
      | _ => v_ = .bool true) ?_ ?_ GN.refl ?_ ?_
  · rfl
  · intro k_ v_ w_ w2_ h1 hg
    split at h1 <;> exact h1
  · intro vals
    show wpO _ _ _ _ _ _ 0 (_ :: _) _
    refine wpO_cons (oop (Instr.loadAt 25 (.pointer (some ⟨g, 0, none⟩))) (.agg (insA (⟨0, 0, 0, 0, 0, 0, 0, 0, 0, false, false, false⟩ : Ins))) GN.refl fun w_ hJ hd => ?_) ?_
    · exact ⟨by kernel_rfl, by kernel_rfl, (by rw [hJ]; exact run_loadRow hy), rfl⟩
    refine wpO_cons (oval (.agg (insA (⟨0, 0, 0, 0, 0, 0, 0, 0, 0, false, false, false⟩ : Ins))) GN.refl fun w_ hJ hd => ?_) ?_
    · exact ⟨by kernel_rfl, by kernel_rfl, rfl⟩
    refine wpO_cons (oop ((do eqGuard .eql 25 (.tmp 47) (.tmp 48) (.agg (insA (⟨0, 0, 0, 0, 0, 0, 0, 0, 0, false, false, false⟩ : Ins))) (.agg (insA (⟨0, 0, 0, 0, 0, 0, 0, 0, 0, false, false, false⟩ : Ins))); binOp .eql 25 (.agg (insA (⟨0, 0, 0, 0, 0, 0, 0, 0, 0, false, false, false⟩ : Ins))) (.agg (insA (⟨0, 0, 0, 0, 0, 0, 0, 0, 0, false, false, false⟩ : Ins))))) (.bool true) GN.refl fun w_ hJ hd => ?_) ?_
    · have e0 : vals 0 = _ := hd 0 (by decide)
      have e1 : vals 1 = _ := hd 1 (by decide)
      rw [e0, e1]
      exact ⟨by kernel_rfl, by kernel_rfl, eq_awake2 w_, rfl⟩
    refine wpO_cons (oval (.bool true) GN.refl fun w_ hJ hd => ?_) ?_
    · have e2 : vals 2 = _ := hd 2 (by decide)
      rw [e2]
      exact ⟨by kernel_rfl, by kernel_rfl, rfl⟩
    refine wpO_cons (oval (.bool false) GN.refl fun w_ hJ hd => ?_) ?_
    · have e3 : vals 3 = _ := hd 3 (by decide)
      rw [e3]
      exact ⟨by kernel_rfl, by kernel_rfl, rfl⟩
    refine wpO_cons (oval (.bool true) GN.refl fun w_ hJ hd => ?_) ?_
    · have e3 : vals 3 = _ := hd 3 (by decide)
      have e4 : vals 4 = _ := hd 4 (by decide)
      rw [e3, e4]
      exact ⟨by kernel_rfl, by kernel_rfl, rfl⟩
    refine wpO_cons (oval (.bool true) GN.refl fun w_ hJ hd => ?_) ?_
    · have e3 : vals 3 = _ := hd 3 (by decide)
      have e5 : vals 5 = _ := hd 5 (by decide)
      rw [e3, e5]
      exact ⟨by kernel_rfl, by kernel_rfl, rfl⟩
    refine wpO_cons (oval (.bool true) GN.refl fun w_ hJ hd => ?_) ?_
    · have e6 : vals 6 = _ := hd 6 (by decide)
      rw [e6]
      exact ⟨by kernel_rfl, by kernel_rfl, rfl⟩
    refine wpO_cons (oval (.int .u32 0) GN.refl fun w_ hJ hd => ?_) ?_
    · have e7 : vals 7 = _ := hd 7 (by decide)
      rw [e7]
      exact ⟨by kernel_rfl, by kernel_rfl, rfl⟩
    refine wpO_cons (oval (.bool true) GN.refl fun w_ hJ hd => ?_) ?_
    · have e7 : vals 7 = _ := hd 7 (by decide)
      have e8 : vals 8 = _ := hd 8 (by decide)
      rw [e7, e8]
      exact ⟨by kernel_rfl, by kernel_rfl, rfl⟩
    refine wpO_cons (oval (.bool true) GN.refl fun w_ hJ hd => ?_) ?_
    · have e7 : vals 7 = _ := hd 7 (by decide)
      have e9 : vals 9 = _ := hd 9 (by decide)
      rw [e7, e9]
      exact ⟨by kernel_rfl, by kernel_rfl, rfl⟩
    refine wpO_cons (oval (.bool true) GN.refl fun w_ hJ hd => ?_) wpO_nil
    · have e10 : vals 10 = _ := hd 10 (by decide)
      rw [e10]
      exact ⟨by kernel_rfl, by kernel_rfl, rfl⟩
  intro vals w_ hJ hf
  have e0 : vals 0 = _ := hf 0 (by decide)
  have e1 : vals 1 = _ := hf 1 (by decide)
  have e2 : vals 2 = _ := hf 2 (by decide)
  have e3 : vals 3 = _ := hf 3 (by decide)
  have e4 : vals 4 = _ := hf 4 (by decide)
  have e5 : vals 5 = _ := hf 5 (by decide)
  have e6 : vals 6 = _ := hf 6 (by decide)
  have e7 : vals 7 = _ := hf 7 (by decide)
  have e8 : vals 8 = _ := hf 8 (by decide)
  have e9 : vals 9 = _ := hf 9 (by decide)
  have e10 : vals 10 = _ := hf 10 (by decide)
  have e11 : vals 11 = _ := hf 11 (by decide)
  simp only [fillG, Nat.zero_add, Nat.reduceAdd, e0, e1, e2, e3, e4, e5, e6, e7, e8, e9, e10, e11, Act.put, List.setIfInBounds_toArray, List.set_cons_succ, List.set_cons_zero]
  clear e0 e1 e2 e3 e4 e5 e6 e7 e8 e9 e10 e11 hf
  obtain rfl : W5 = w_ := by first | assumption | (symm; assumption)
  go_wp2
  go_ret
  exact ⟨rfl, hgW5⟩
set_option maxRecDepth 100000 in
set_option maxHeartbeats 4000000 in
theorem back_ny (b : Nat) (hb : b < 4294967296) (k rd r1 r2 r3 rm c sz i : Int) (ui us wd : Bool) (hw : WFI (⟨k, rd, r1, r2, r3, rm, c, sz, i, ui, us, wd⟩ : Ins)) (hE : Hid (encN (⟨k, rd, r1, r2, r3, rm, c, sz, i, ui, us, wd⟩ : Ins) = (0, false))) (ky rdy r1y r2y r3y rmy cy szy iy : Int) (uiy usy wdy : Bool) (hwy : WFI (⟨ky, rdy, r1y, r2y, r3y, rmy, cy, szy, iy, uiy, usy, wdy⟩ : Ins)) (hy0 : decN b = (⟨ky, rdy, r1y, r2y, r3y, rmy, cy, szy, iy, uiy, usy, wdy⟩ : Ins)) (nk : (ky == 0) = false) (cc : Nat) (hcc : cc < 4294967296) (hdc : decN cc = (⟨ky, rdy, r1y, r2y, r3y, rmy, cy, szy, iy, uiy, usy, wdy⟩ : Ins)) (hz : bits .andNot .u32 (cc : Int) (b : Int) = 0) (hE2 : Hid (encN (⟨ky, rdy, r1y, r2y, r3y, rmy, cy, szy, iy, uiy, usy, wdy⟩ : Ins) = (cc, true))) (w : World) : Calls Try.prog 5 #[.int .u32 b, .agg #[.int .i64 k, .int .i64 rd, .int .i64 r1, .int .i64 r2, .int .i64 r3, .int .i64 rm, .int .i64 c, .int .i64 sz, .int .i64 i, .bool ui, .bool us, .bool wd]] w fun e w' => e = .returned (.bool true) ∧ GN w w' := by
  go_enter Try.func5, Try.ntmps5
  go_upto_region 3 with (go_at_call 9; refine (awake_any _).mono ?_; rintro _ w9 ⟨rfl, hq9⟩)
  refine cutR (w := w) (g := w.heap.size) (x := #[.int .i64 k, .int .i64 rd, .int .i64 r1, .int .i64 r2, .int .i64 r3, .int .i64 rm, .int .i64 c, .int .i64 sz, .int .i64 i, .bool ui, .bool us, .bool wd]) (GN.trans ((GN.refl w).alloc _) hq9) (GN.heap hq9 (heap_alloc_last _ _)) fun W hgW hx => ?_
  have W1 := lt_of_heap' hx
  obtain ⟨⟨p0, q0⟩, ⟨p1, q1⟩, ⟨p2, q2⟩, ⟨p3, q3⟩, ⟨p4, q4⟩, ⟨p5, q5⟩, ⟨p6, q6⟩, ⟨p7, q7⟩, ⟨p8, q8⟩, ⟨p9, q9⟩, ⟨p10, q10⟩, ⟨p11, q11⟩⟩ := c12 hx
  go_upto_region 4 with (go_at_call 12; refine (enc_call0 hw (unhide hE) _).mono ?_; rintro _ w12 ⟨rfl, hq12⟩)
  clear p0 q0 p1 q1 p2 q2 p3 q3 p4 q4 p5 q5 p6 q6 p7 q7 p8 q8 p9 q9 p10 q10 p11 q11
  have hx12 := GN.heap hq12 hx
  refine cutR (w := w) (g := w.heap.size) (x := #[.int .i64 k, .int .i64 rd, .int .i64 r1, .int .i64 r2, .int .i64 r3, .int .i64 rm, .int .i64 c, .int .i64 sz, .int .i64 i, .bool ui, .bool us, .bool wd]) (GN.trans hgW hq12) hx12 fun W2 hgW2 hx2 => ?_
  clear hx hx12 hq12 hgW hq9 W1
  have hx := hx2
  refine wp_region_F (fun w_ => GN W2 w_) GN (fun k_ v_ w_ => match k_ with
      | 0 => v_ = .bool false
      | 1 => v_ = .bool false
      | 2 => v_ = undef
      | 3 => v_ = undef
      | 4 => v_ = undef
      | 5 => v_ = undef
      | 6 => v_ = undef
      | 7 => v_ = undef
      | 8 => v_ = undef
      | 9 => v_ = undef
      | 10 => v_ = undef
      | 11 => v_ = .bool false
      | 12 => v_ = .bool false
      | 13 => v_ = .bool false
      | 14 => v_ = .bool true
      | 15 => v_ = .bool true
      | 16 => v_ = .int .u32 0
      | 17 => v_ = .bool false
      | 18 => v_ = .bool false
      | _ => v_ = .bool false) fol (by kernel_rfl) ?_ ?_ ?_ ?_
  · exact (GN.refl W2).drew
  · intro k_ v_ w_ w2_ h1 hg
    split at h1 <;> exact h1
  · intro vals
    show wpG _ _ _ _ _ _ 0 (_ :: _) _
    refine wpG_cons (gval (.bool false) GN.refl fun w_ hJ hd => ?_) ?_
    · exact ⟨by kernel_rfl, by kernel_rfl, rfl⟩
    refine wpG_cons (gval (.bool false) GN.refl fun w_ hJ hd => ?_) ?_
    · have e0 : vals 0 = _ := hd 0 (by decide) (by kernel_rfl)
      rw [e0]
      exact ⟨by kernel_rfl, by kernel_rfl, rfl⟩
    refine wpG_cons (gskip fun w_ hJ hd => ?_) ?_
    · have e1 : vals 1 = _ := hd 1 (by decide) (by kernel_rfl)
      rw [e1]
      exact ⟨by kernel_rfl, rfl⟩
    refine wpG_cons (gskip fun w_ hJ hd => ?_) ?_
    · have e1 : vals 1 = _ := hd 1 (by decide) (by kernel_rfl)
      rw [e1]
      exact ⟨by kernel_rfl, rfl⟩
    refine wpG_cons (gskip fun w_ hJ hd => ?_) ?_
    · have e1 : vals 1 = _ := hd 1 (by decide) (by kernel_rfl)
      rw [e1]
      exact ⟨by kernel_rfl, rfl⟩
    refine wpG_cons (gskip fun w_ hJ hd => ?_) ?_
    · have e1 : vals 1 = _ := hd 1 (by decide) (by kernel_rfl)
      rw [e1]
      exact ⟨by kernel_rfl, rfl⟩
    refine wpG_cons (gskip fun w_ hJ hd => ?_) ?_
    · have e1 : vals 1 = _ := hd 1 (by decide) (by kernel_rfl)
      rw [e1]
      exact ⟨by kernel_rfl, rfl⟩
    refine wpG_cons (gskip fun w_ hJ hd => ?_) ?_
    · have e6 : vals 6 = _ := hd 6 (by decide) (by kernel_rfl)
      rw [e6]
      exact ⟨by kernel_rfl, rfl⟩
    refine wpG_cons (gskip fun w_ hJ hd => ?_) ?_
    · have e6 : vals 6 = _ := hd 6 (by decide) (by kernel_rfl)
      rw [e6]
      exact ⟨by kernel_rfl, rfl⟩
    refine wpG_cons (gskip fun w_ hJ hd => ?_) ?_
    · have e6 : vals 6 = _ := hd 6 (by decide) (by kernel_rfl)
      rw [e6]
      exact ⟨by kernel_rfl, rfl⟩
    refine wpG_cons (gskip fun w_ hJ hd => ?_) ?_
    · have e1 : vals 1 = _ := hd 1 (by decide) (by kernel_rfl)
      rw [e1]
      exact ⟨by kernel_rfl, rfl⟩
    refine wpG_cons (gval (.bool false) GN.refl fun w_ hJ hd => ?_) ?_
    · have e1 : vals 1 = _ := hd 1 (by decide) (by kernel_rfl)
      rw [e1]
      exact ⟨by kernel_rfl, by kernel_rfl, rfl⟩
    refine wpG_cons (gval (.bool false) GN.refl fun w_ hJ hd => ?_) ?_
    · have e11 : vals 11 = _ := hd 11 (by decide) (by kernel_rfl)
      rw [e11]
      exact ⟨by kernel_rfl, by kernel_rfl, rfl⟩
    refine wpG_cons (gval (.bool false) GN.refl fun w_ hJ hd => ?_) ?_
    · have e12 : vals 12 = _ := hd 12 (by decide) (by kernel_rfl)
      rw [e12]
      exact ⟨by kernel_rfl, by kernel_rfl, rfl⟩
    refine wpG_cons (gval (.bool true) GN.refl fun w_ hJ hd => ?_) ?_
    · have e12 : vals 12 = _ := hd 12 (by decide) (by kernel_rfl)
      have e13 : vals 13 = _ := hd 13 (by decide) (by kernel_rfl)
      rw [e12, e13]
      exact ⟨by kernel_rfl, by kernel_rfl, rfl⟩
    refine wpG_cons (gval (.bool true) GN.refl fun w_ hJ hd => ?_) ?_
    · have e12 : vals 12 = _ := hd 12 (by decide) (by kernel_rfl)
      have e14 : vals 14 = _ := hd 14 (by decide) (by kernel_rfl)
      rw [e12, e14]
      exact ⟨by kernel_rfl, by kernel_rfl, rfl⟩
    refine wpG_cons (gval (.int .u32 0) GN.refl fun w_ hJ hd => ?_) ?_
    · have e15 : vals 15 = _ := hd 15 (by decide) (by kernel_rfl)
      rw [e15]
      exact ⟨by kernel_rfl, by kernel_rfl, rfl⟩
    refine wpG_cons (gval (.bool false) GN.refl fun w_ hJ hd => ?_) ?_
    · have e15 : vals 15 = _ := hd 15 (by decide) (by kernel_rfl)
      have e16 : vals 16 = _ := hd 16 (by decide) (by kernel_rfl)
      rw [e15, e16]
      exact ⟨by kernel_rfl, by kernel_rfl, rfl⟩
    refine wpG_cons (gval (.bool false) GN.refl fun w_ hJ hd => ?_) ?_
    · have e12 : vals 12 = _ := hd 12 (by decide) (by kernel_rfl)
      have e15 : vals 15 = _ := hd 15 (by decide) (by kernel_rfl)
      have e17 : vals 17 = _ := hd 17 (by decide) (by kernel_rfl)
      rw [e12, e15, e17]
      exact ⟨by kernel_rfl, by kernel_rfl, rfl⟩
    refine wpG_cons (gval (.bool false) GN.refl fun w_ hJ hd => ?_) wpG_nil
    · have e12 : vals 12 = _ := hd 12 (by decide) (by kernel_rfl)
      have e18 : vals 18 = _ := hd 18 (by decide) (by kernel_rfl)
      rw [e12, e18]
      exact ⟨by kernel_rfl, by kernel_rfl, rfl⟩
  intro vals w_ hJ hf
  have e0 : vals 0 = _ := hf 0 (by decide)
  have e1 : vals 1 = _ := hf 1 (by decide)
  have e2 : vals 2 = _ := hf 2 (by decide)
  have e3 : vals 3 = _ := hf 3 (by decide)
  have e4 : vals 4 = _ := hf 4 (by decide)
  have e5 : vals 5 = _ := hf 5 (by decide)
  have e6 : vals 6 = _ := hf 6 (by decide)
  have e7 : vals 7 = _ := hf 7 (by decide)
  have e8 : vals 8 = _ := hf 8 (by decide)
  have e9 : vals 9 = _ := hf 9 (by decide)
  have e10 : vals 10 = _ := hf 10 (by decide)
  have e11 : vals 11 = _ := hf 11 (by decide)
  have e12 : vals 12 = _ := hf 12 (by decide)
  have e13 : vals 13 = _ := hf 13 (by decide)
  have e14 : vals 14 = _ := hf 14 (by decide)
  have e15 : vals 15 = _ := hf 15 (by decide)
  have e16 : vals 16 = _ := hf 16 (by decide)
  have e17 : vals 17 = _ := hf 17 (by decide)
  have e18 : vals 18 = _ := hf 18 (by decide)
  have e19 : vals 19 = _ := hf 19 (by decide)
  simp only [fillG, Nat.zero_add, Nat.reduceAdd, e0, e1, e2, e3, e4, e5, e6, e7, e8, e9, e10, e11, e12, e13, e14, e15, e16, e17, e18, e19, Act.put, List.setIfInBounds_toArray, List.set_cons_succ, List.set_cons_zero]
  clear e0 e1 e2 e3 e4 e5 e6 e7 e8 e9 e10 e11 e12 e13 e14 e15 e16 e17 e18 e19 hf
  go_upto_region 7 with (go_at_call 10; refine (dec_call hb hy0 _).mono ?_; rintro _ w10 ⟨rfl, hq10⟩)
  refine cutR (w := w) (g := w10.heap.size) (x := #[.int .i64 ky, .int .i64 rdy, .int .i64 r1y, .int .i64 r2y, .int .i64 r3y, .int .i64 rmy, .int .i64 cy, .int .i64 szy, .int .i64 iy, .bool uiy, .bool usy, .bool wdy]) (GN.alloc (GN.trans (GN.trans hgW2 hJ) hq10) _) (heap_alloc_last _ _) fun W3 hgW3 hy => ?_
  generalize w10.heap.size = g at *
  have W4 := lt_of_heap' hy
  obtain ⟨⟨p0, q0⟩, ⟨p1, q1⟩, ⟨p2, q2⟩, ⟨p3, q3⟩, ⟨p4, q4⟩, ⟨p5, q5⟩, ⟨p6, q6⟩, ⟨p7, q7⟩, ⟨p8, q8⟩, ⟨p9, q9⟩, ⟨p10, q10⟩, ⟨p11, q11⟩⟩ := c12 hy
  go_upto_region 8 with (go_at_call 12; refine (enc_call hwy (unhide hE2) _).mono ?_; rintro _ w12 ⟨rfl, hq12⟩)
  clear p0 q0 p1 q1 p2 q2 p3 q3 p4 q4 p5 q5 p6 q6 p7 q7 p8 q8 p9 q9 p10 q10 p11 q11
  have hy12 := GN.heap hq12 hy
  refine cutR (w := w) (g := g) (x := #[.int .i64 ky, .int .i64 rdy, .int .i64 r1y, .int .i64 r2y, .int .i64 r3y, .int .i64 rmy, .int .i64 cy, .int .i64 szy, .int .i64 iy, .bool uiy, .bool usy, .bool wdy]) (GN.trans hgW3 hq12) hy12 fun W5 hgW5 hy5 => ?_
  clear hy hy12 hq12 hgW3
  have hy := hy5
  obtain ⟨⟨p0, q0⟩, ⟨p1, q1⟩, ⟨p2, q2⟩, ⟨p3, q3⟩, ⟨p4, q4⟩, ⟨p5, q5⟩, ⟨p6, q6⟩, ⟨p7, q7⟩, ⟨p8, q8⟩, ⟨p9, q9⟩, ⟨p10, q10⟩, ⟨p11, q11⟩⟩ := c12 hy
  go_upto_region 10 with fail
  clear p0 q0 p1 q1 p2 q2 p3 q3 p4 q4 p5 q5 p6 q6 p7 q7 p8 q8 p9 q9 p10 q10 p11 q11
  refine wp_region_F (fun w_ => GN W5 w_) GN (fun k_ v_ w_ => match k_ with
      | 0 => v_ = .bool true
      | 1 => v_ = .bool true
      | 2 => v_ = .int .u32 ((cc : Int))
      | 3 => v_ = .agg (insA (⟨ky, rdy, r1y, r2y, r3y, rmy, cy, szy, iy, uiy, usy, wdy⟩ : Ins))
      | 4 => v_ = .agg (insA (⟨ky, rdy, r1y, r2y, r3y, rmy, cy, szy, iy, uiy, usy, wdy⟩ : Ins))
      | 5 => v_ = .bool true
      | 6 => v_ = .bool true
      | 7 => v_ = .bool true
      | 8 => v_ = .int .u32 ((cc : Int))
      | 9 => v_ = .int .u32 ((b : Int))
      | 10 => v_ = .int .u32 0
      | 11 => v_ = .bool true
      | 12 => v_ = .bool true
      | _ => v_ = .bool true) fol (by kernel_rfl) ?_ ?_ ?_ ?_
  · exact (GN.refl W5).drew
  · intro k_ v_ w_ w2_ h1 hg
    split at h1 <;> exact h1
  · intro vals
    show wpG _ _ _ _ _ _ 0 (_ :: _) _
    refine wpG_cons (gval (.bool true) GN.refl fun w_ hJ hd => ?_) ?_
    · exact ⟨by kernel_rfl, by kernel_rfl, rfl⟩
    refine wpG_cons (gval (.bool true) GN.refl fun w_ hJ hd => ?_) ?_
    · have e0 : vals 0 = _ := hd 0 (by decide) (by kernel_rfl)
      rw [e0]
      exact ⟨by kernel_rfl, by kernel_rfl, rfl⟩
    refine wpG_cons (gval (.int .u32 ((cc : Int))) GN.refl fun w_ hJ hd => ?_) ?_
    · have e1 : vals 1 = _ := hd 1 (by decide) (by kernel_rfl)
      rw [e1]
      exact ⟨by kernel_rfl, by kernel_rfl, rfl⟩
    refine wpG_cons (gcall 10 #[.int .u32 ((cc : Int))] fun w_ hJ hd => ?_) ?_
    · have e1 : vals 1 = _ := hd 1 (by decide) (by kernel_rfl)
      have e2 : vals 2 = _ := hd 2 (by decide) (by kernel_rfl)
      rw [e1, e2]
      exact ⟨by kernel_rfl, by kernel_rfl, dec_callA hcc hdc hJ⟩
    refine wpG_cons (gop (Instr.loadAt 25 (.pointer (some ⟨g, 0, none⟩))) (.agg (insA (⟨ky, rdy, r1y, r2y, r3y, rmy, cy, szy, iy, uiy, usy, wdy⟩ : Ins))) GN.refl fun w_ hJ hd => ?_) ?_
    · have e1 : vals 1 = _ := hd 1 (by decide) (by kernel_rfl)
      rw [e1]
      exact ⟨by kernel_rfl, by kernel_rfl, run_loadRow (GN.heap hJ hy), rfl⟩
    refine wpG_cons (gop ((do eqGuard .eql 25 (.tmp 61) (.tmp 62) (.agg (insA (⟨ky, rdy, r1y, r2y, r3y, rmy, cy, szy, iy, uiy, usy, wdy⟩ : Ins))) (.agg (insA (⟨ky, rdy, r1y, r2y, r3y, rmy, cy, szy, iy, uiy, usy, wdy⟩ : Ins))); binOp .eql 25 (.agg (insA (⟨ky, rdy, r1y, r2y, r3y, rmy, cy, szy, iy, uiy, usy, wdy⟩ : Ins))) (.agg (insA (⟨ky, rdy, r1y, r2y, r3y, rmy, cy, szy, iy, uiy, usy, wdy⟩ : Ins))))) (.bool true) GN.refl fun w_ hJ hd => ?_) ?_
    · have e1 : vals 1 = _ := hd 1 (by decide) (by kernel_rfl)
      have e3 : vals 3 = _ := hd 3 (by decide) (by kernel_rfl)
      have e4 : vals 4 = _ := hd 4 (by decide) (by kernel_rfl)
      rw [e1, e3, e4]
      exact ⟨by kernel_rfl, by kernel_rfl, eq_same hwy w_, rfl⟩
    refine wpG_cons (gval (.bool true) GN.refl fun w_ hJ hd => ?_) ?_
    · have e1 : vals 1 = _ := hd 1 (by decide) (by kernel_rfl)
      have e5 : vals 5 = _ := hd 5 (by decide) (by kernel_rfl)
      rw [e1, e5]
      exact ⟨by kernel_rfl, by kernel_rfl, rfl⟩
    refine wpG_cons (gval (.bool true) GN.refl fun w_ hJ hd => ?_) ?_
    · have e6 : vals 6 = _ := hd 6 (by decide) (by kernel_rfl)
      rw [e6]
      exact ⟨by kernel_rfl, by kernel_rfl, rfl⟩
    refine wpG_cons (gval (.int .u32 ((cc : Int))) GN.refl fun w_ hJ hd => ?_) ?_
    · have e7 : vals 7 = _ := hd 7 (by decide) (by kernel_rfl)
      rw [e7]
      exact ⟨by kernel_rfl, by kernel_rfl, rfl⟩
    refine wpG_cons (gval (.int .u32 ((b : Int))) GN.refl fun w_ hJ hd => ?_) ?_
    · have e7 : vals 7 = _ := hd 7 (by decide) (by kernel_rfl)
      rw [e7]
      exact ⟨by kernel_rfl, by kernel_rfl, rfl⟩
    refine wpG_cons (gop (binOp .andNot 22 (.int .u32 ((cc : Int))) (.int .u32 ((b : Int)))) (.int .u32 0) GN.refl fun w_ hJ hd => ?_) ?_
    · have e7 : vals 7 = _ := hd 7 (by decide) (by kernel_rfl)
      have e8 : vals 8 = _ := hd 8 (by decide) (by kernel_rfl)
      have e9 : vals 9 = _ := hd 9 (by decide) (by kernel_rfl)
      rw [e7, e8, e9]
      exact ⟨by kernel_rfl, by kernel_rfl, andnot_run hz w_, rfl⟩
    refine wpG_cons (gval (.bool true) GN.refl fun w_ hJ hd => ?_) ?_
    · have e7 : vals 7 = _ := hd 7 (by decide) (by kernel_rfl)
      have e10 : vals 10 = _ := hd 10 (by decide) (by kernel_rfl)
      rw [e7, e10]
      exact ⟨by kernel_rfl, by kernel_rfl, rfl⟩
    refine wpG_cons (gval (.bool true) GN.refl fun w_ hJ hd => ?_) ?_
    · have e7 : vals 7 = _ := hd 7 (by decide) (by kernel_rfl)
      have e11 : vals 11 = _ := hd 11 (by decide) (by kernel_rfl)
      rw [e7, e11]
      exact ⟨by kernel_rfl, by kernel_rfl, rfl⟩
    refine wpG_cons (gval (.bool true) GN.refl fun w_ hJ hd => ?_) wpG_nil
    · have e12 : vals 12 = _ := hd 12 (by decide) (by kernel_rfl)
      rw [e12]
      exact ⟨by kernel_rfl, by kernel_rfl, rfl⟩
  intro vals w_ hJ hf
  have e0 : vals 0 = _ := hf 0 (by decide)
  have e1 : vals 1 = _ := hf 1 (by decide)
  have e2 : vals 2 = _ := hf 2 (by decide)
  have e3 : vals 3 = _ := hf 3 (by decide)
  have e4 : vals 4 = _ := hf 4 (by decide)
  have e5 : vals 5 = _ := hf 5 (by decide)
  have e6 : vals 6 = _ := hf 6 (by decide)
  have e7 : vals 7 = _ := hf 7 (by decide)
  have e8 : vals 8 = _ := hf 8 (by decide)
  have e9 : vals 9 = _ := hf 9 (by decide)
  have e10 : vals 10 = _ := hf 10 (by decide)
  have e11 : vals 11 = _ := hf 11 (by decide)
  have e12 : vals 12 = _ := hf 12 (by decide)
  have e13 : vals 13 = _ := hf 13 (by decide)
  simp only [fillG, Nat.zero_add, Nat.reduceAdd, e0, e1, e2, e3, e4, e5, e6, e7, e8, e9, e10, e11, e12, e13, Act.put, List.setIfInBounds_toArray, List.set_cons_succ, List.set_cons_zero]
  clear e0 e1 e2 e3 e4 e5 e6 e7 e8 e9 e10 e11 e12 e13 hf
  go_wp2
  go_ret
  exact ⟨rfl, GN.trans hgW5 (by assumption)⟩
set_option maxRecDepth 100000 in
set_option maxHeartbeats 4000000 in
theorem back_nn (b : Nat) (hb : b < 4294967296) (k rd r1 r2 r3 rm c sz i : Int) (ui us wd : Bool) (hw : WFI (⟨k, rd, r1, r2, r3, rm, c, sz, i, ui, us, wd⟩ : Ins)) (hE : Hid (encN (⟨k, rd, r1, r2, r3, rm, c, sz, i, ui, us, wd⟩ : Ins) = (0, false))) (hwy : WFI (⟨0, 0, 0, 0, 0, 0, 0, 0, 0, false, false, false⟩ : Ins)) (hy0 : decN b = (⟨0, 0, 0, 0, 0, 0, 0, 0, 0, false, false, false⟩ : Ins)) (hE2 : Hid (encN (⟨0, 0, 0, 0, 0, 0, 0, 0, 0, false, false, false⟩ : Ins) = (0, false))) (w : World) : Calls Try.prog 5 #[.int .u32 b, .agg #[.int .i64 k, .int .i64 rd, .int .i64 r1, .int .i64 r2, .int .i64 r3, .int .i64 rm, .int .i64 c, .int .i64 sz, .int .i64 i, .bool ui, .bool us, .bool wd]] w fun e w' => e = .returned (.bool true) ∧ GN w w' := by
  go_enter Try.func5, Try.ntmps5
  go_upto_region 3 with (go_at_call 9; refine (awake_any _).mono ?_; rintro _ w9 ⟨rfl, hq9⟩)
  refine cutR (w := w) (g := w.heap.size) (x := #[.int .i64 k, .int .i64 rd, .int .i64 r1, .int .i64 r2, .int .i64 r3, .int .i64 rm, .int .i64 c, .int .i64 sz, .int .i64 i, .bool ui, .bool us, .bool wd]) (GN.trans ((GN.refl w).alloc _) hq9) (GN.heap hq9 (heap_alloc_last _ _)) fun W hgW hx => ?_
  have W1 := lt_of_heap' hx
  obtain ⟨⟨p0, q0⟩, ⟨p1, q1⟩, ⟨p2, q2⟩, ⟨p3, q3⟩, ⟨p4, q4⟩, ⟨p5, q5⟩, ⟨p6, q6⟩, ⟨p7, q7⟩, ⟨p8, q8⟩, ⟨p9, q9⟩, ⟨p10, q10⟩, ⟨p11, q11⟩⟩ := c12 hx
  go_upto_region 4 with (go_at_call 12; refine (enc_call0 hw (unhide hE) _).mono ?_; rintro _ w12 ⟨rfl, hq12⟩)
  clear p0 q0 p1 q1 p2 q2 p3 q3 p4 q4 p5 q5 p6 q6 p7 q7 p8 q8 p9 q9 p10 q10 p11 q11
  have hx12 := GN.heap hq12 hx
  refine cutR (w := w) (g := w.heap.size) (x := #[.int .i64 k, .int .i64 rd, .int .i64 r1, .int .i64 r2, .int .i64 r3, .int .i64 rm, .int .i64 c, .int .i64 sz, .int .i64 i, .bool ui, .bool us, .bool wd]) (GN.trans hgW hq12) hx12 fun W2 hgW2 hx2 => ?_
  clear hx hx12 hq12 hgW hq9 W1
  have hx := hx2
  refine wp_region_F (fun w_ => GN W2 w_) GN (fun k_ v_ w_ => match k_ with
      | 0 => v_ = .bool false
      | 1 => v_ = .bool false
      | 2 => v_ = undef
      | 3 => v_ = undef
      | 4 => v_ = undef
      | 5 => v_ = undef
      | 6 => v_ = undef
      | 7 => v_ = undef
      | 8 => v_ = undef
      | 9 => v_ = undef
      | 10 => v_ = undef
      | 11 => v_ = .bool false
      | 12 => v_ = .bool false
      | 13 => v_ = .bool false
      | 14 => v_ = .bool true
      | 15 => v_ = .bool true
      | 16 => v_ = .int .u32 0
      | 17 => v_ = .bool false
      | 18 => v_ = .bool false
      | _ => v_ = .bool false) fol (by kernel_rfl) ?_ ?_ ?_ ?_
  · exact (GN.refl W2).drew
  · intro k_ v_ w_ w2_ h1 hg
    split at h1 <;> exact h1
  · intro vals
    show wpG _ _ _ _ _ _ 0 (_ :: _) _
    refine wpG_cons (gval (.bool false) GN.refl fun w_ hJ hd => ?_) ?_
    · exact ⟨by kernel_rfl, by kernel_rfl, rfl⟩
    refine wpG_cons (gval (.bool false) GN.refl fun w_ hJ hd => ?_) ?_
    · have e0 : vals 0 = _ := hd 0 (by decide) (by kernel_rfl)
      rw [e0]
      exact ⟨by kernel_rfl, by kernel_rfl, rfl⟩
    refine wpG_cons (gskip fun w_ hJ hd => ?_) ?_
    · have e1 : vals 1 = _ := hd 1 (by decide) (by kernel_rfl)
      rw [e1]
      exact ⟨by kernel_rfl, rfl⟩
    refine wpG_cons (gskip fun w_ hJ hd => ?_) ?_
    · have e1 : vals 1 = _ := hd 1 (by decide) (by kernel_rfl)
      rw [e1]
      exact ⟨by kernel_rfl, rfl⟩
    refine wpG_cons (gskip fun w_ hJ hd => ?_) ?_
    · have e1 : vals 1 = _ := hd 1 (by decide) (by kernel_rfl)
      rw [e1]
      exact ⟨by kernel_rfl, rfl⟩
    refine wpG_cons (gskip fun w_ hJ hd => ?_) ?_
    · have e1 : vals 1 = _ := hd 1 (by decide) (by kernel_rfl)
      rw [e1]
      exact ⟨by kernel_rfl, rfl⟩
    refine wpG_cons (gskip fun w_ hJ hd => ?_) ?_
    · have e1 : vals 1 = _ := hd 1 (by decide) (by kernel_rfl)
      rw [e1]
      exact ⟨by kernel_rfl, rfl⟩
    refine wpG_cons (gskip fun w_ hJ hd => ?_) ?_
    · have e6 : vals 6 = _ := hd 6 (by decide) (by kernel_rfl)
      rw [e6]
      exact ⟨by kernel_rfl, rfl⟩
    refine wpG_cons (gskip fun w_ hJ hd => ?_) ?_
    · have e6 : vals 6 = _ := hd 6 (by decide) (by kernel_rfl)
      rw [e6]
      exact ⟨by kernel_rfl, rfl⟩
    refine wpG_cons (gskip fun w_ hJ hd => ?_) ?_
    · have e6 : vals 6 = _ := hd 6 (by decide) (by kernel_rfl)
      rw [e6]
      exact ⟨by kernel_rfl, rfl⟩
    refine wpG_cons (gskip fun w_ hJ hd => ?_) ?_
    · have e1 : vals 1 = _ := hd 1 (by decide) (by kernel_rfl)
      rw [e1]
      exact ⟨by kernel_rfl, rfl⟩
    refine wpG_cons (gval (.bool false) GN.refl fun w_ hJ hd => ?_) ?_
    · have e1 : vals 1 = _ := hd 1 (by decide) (by kernel_rfl)
      rw [e1]
      exact ⟨by kernel_rfl, by kernel_rfl, rfl⟩
    refine wpG_cons (gval (.bool false) GN.refl fun w_ hJ hd => ?_) ?_
    · have e11 : vals 11 = _ := hd 11 (by decide) (by kernel_rfl)
      rw [e11]
      exact ⟨by kernel_rfl, by kernel_rfl, rfl⟩
    refine wpG_cons (gval (.bool false) GN.refl fun w_ hJ hd => ?_) ?_
    · have e12 : vals 12 = _ := hd 12 (by decide) (by kernel_rfl)
      rw [e12]
      exact ⟨by kernel_rfl, by kernel_rfl, rfl⟩
    refine wpG_cons (gval (.bool true) GN.refl fun w_ hJ hd => ?_) ?_
    · have e12 : vals 12 = _ := hd 12 (by decide) (by kernel_rfl)
      have e13 : vals 13 = _ := hd 13 (by decide) (by kernel_rfl)
      rw [e12, e13]
      exact ⟨by kernel_rfl, by kernel_rfl, rfl⟩
    refine wpG_cons (gval (.bool true) GN.refl fun w_ hJ hd => ?_) ?_
    · have e12 : vals 12 = _ := hd 12 (by decide) (by kernel_rfl)
      have e14 : vals 14 = _ := hd 14 (by decide) (by kernel_rfl)
      rw [e12, e14]
      exact ⟨by kernel_rfl, by kernel_rfl, rfl⟩
    refine wpG_cons (gval (.int .u32 0) GN.refl fun w_ hJ hd => ?_) ?_
    · have e15 : vals 15 = _ := hd 15 (by decide) (by kernel_rfl)
      rw [e15]
      exact ⟨by kernel_rfl, by kernel_rfl, rfl⟩
    refine wpG_cons (gval (.bool false) GN.refl fun w_ hJ hd => ?_) ?_
    · have e15 : vals 15 = _ := hd 15 (by decide) (by kernel_rfl)
      have e16 : vals 16 = _ := hd 16 (by decide) (by kernel_rfl)
      rw [e15, e16]
      exact ⟨by kernel_rfl, by kernel_rfl, rfl⟩
    refine wpG_cons (gval (.bool false) GN.refl fun w_ hJ hd => ?_) ?_
    · have e12 : vals 12 = _ := hd 12 (by decide) (by kernel_rfl)
      have e15 : vals 15 = _ := hd 15 (by decide) (by kernel_rfl)
      have e17 : vals 17 = _ := hd 17 (by decide) (by kernel_rfl)
      rw [e12, e15, e17]
      exact ⟨by kernel_rfl, by kernel_rfl, rfl⟩
    refine wpG_cons (gval (.bool false) GN.refl fun w_ hJ hd => ?_) wpG_nil
    · have e12 : vals 12 = _ := hd 12 (by decide) (by kernel_rfl)
      have e18 : vals 18 = _ := hd 18 (by decide) (by kernel_rfl)
      rw [e12, e18]
      exact ⟨by kernel_rfl, by kernel_rfl, rfl⟩
  intro vals w_ hJ hf
  have e0 : vals 0 = _ := hf 0 (by decide)
  have e1 : vals 1 = _ := hf 1 (by decide)
  have e2 : vals 2 = _ := hf 2 (by decide)
  have e3 : vals 3 = _ := hf 3 (by decide)
  have e4 : vals 4 = _ := hf 4 (by decide)
  have e5 : vals 5 = _ := hf 5 (by decide)
  have e6 : vals 6 = _ := hf 6 (by decide)
  have e7 : vals 7 = _ := hf 7 (by decide)
  have e8 : vals 8 = _ := hf 8 (by decide)
  have e9 : vals 9 = _ := hf 9 (by decide)
  have e10 : vals 10 = _ := hf 10 (by decide)
  have e11 : vals 11 = _ := hf 11 (by decide)
  have e12 : vals 12 = _ := hf 12 (by decide)
  have e13 : vals 13 = _ := hf 13 (by decide)
  have e14 : vals 14 = _ := hf 14 (by decide)
  have e15 : vals 15 = _ := hf 15 (by decide)
  have e16 : vals 16 = _ := hf 16 (by decide)
  have e17 : vals 17 = _ := hf 17 (by decide)
  have e18 : vals 18 = _ := hf 18 (by decide)
  have e19 : vals 19 = _ := hf 19 (by decide)
  simp only [fillG, Nat.zero_add, Nat.reduceAdd, e0, e1, e2, e3, e4, e5, e6, e7, e8, e9, e10, e11, e12, e13, e14, e15, e16, e17, e18, e19, Act.put, List.setIfInBounds_toArray, List.set_cons_succ, List.set_cons_zero]
  clear e0 e1 e2 e3 e4 e5 e6 e7 e8 e9 e10 e11 e12 e13 e14 e15 e16 e17 e18 e19 hf
  go_upto_region 7 with (go_at_call 10; refine (dec_call hb hy0 _).mono ?_; rintro _ w10 ⟨rfl, hq10⟩)
  refine cutR (w := w) (g := w10.heap.size) (x := insA (⟨0, 0, 0, 0, 0, 0, 0, 0, 0, false, false, false⟩ : Ins)) (GN.alloc (GN.trans (GN.trans hgW2 hJ) hq10) _) (heap_alloc_last _ _) fun W3 hgW3 hy => ?_
  generalize w10.heap.size = g at *
  have W4 := lt_of_heap' hy
  obtain ⟨⟨p0, q0⟩, ⟨p1, q1⟩, ⟨p2, q2⟩, ⟨p3, q3⟩, ⟨p4, q4⟩, ⟨p5, q5⟩, ⟨p6, q6⟩, ⟨p7, q7⟩, ⟨p8, q8⟩, ⟨p9, q9⟩, ⟨p10, q10⟩, ⟨p11, q11⟩⟩ := c12 hy
  go_upto_region 8 with (go_at_call 12; refine (enc_call0 hwy (unhide hE2) _).mono ?_; rintro _ w12 ⟨rfl, hq12⟩)
  clear p0 q0 p1 q1 p2 q2 p3 q3 p4 q4 p5 q5 p6 q6 p7 q7 p8 q8 p9 q9 p10 q10 p11 q11
  have hy12 := GN.heap hq12 hy
  refine cutR (w := w) (g := g) (x := insA (⟨0, 0, 0, 0, 0, 0, 0, 0, 0, false, false, false⟩ : Ins)) (GN.trans hgW3 hq12) hy12 fun W5 hgW5 hy5 => ?_
  clear hy hy12 hq12 hgW3
  have hy := hy5
  obtain ⟨⟨p0, q0⟩, ⟨p1, q1⟩, ⟨p2, q2⟩, ⟨p3, q3⟩, ⟨p4, q4⟩, ⟨p5, q5⟩, ⟨p6, q6⟩, ⟨p7, q7⟩, ⟨p8, q8⟩, ⟨p9, q9⟩, ⟨p10, q10⟩, ⟨p11, q11⟩⟩ := c12 hy
  go_upto_region 9 with fail
  clear p0 q0 p1 q1 p2 q2 p3 q3 p4 q4 p5 q5 p6 q6 p7 q7 p8 q8 p9 q9 p10 q10 p11 q11
  refine wp_list_O (fun w_ => w_ = W5) GN (fun k_ v_ w_ => match k_ with
      | 0 => v_ = .agg (insA (⟨0, 0, 0, 0, 0, 0, 0, 0, 0, false, false, false⟩ : Ins))
      | 1 => v_ = .agg (insA (⟨0, 0, 0, 0, 0, 0, 0, 0, 0, false, false, false⟩ : Ins))
      | 2 => v_ = .bool true
      | 3 => v_ = .bool true
      | 4 => v_ = .bool false
      | 5 => v_ = .bool true
      | 6 => v_ = .bool true
      | 7 => v_ = .bool true
      | 8 => v_ = .int .u32 0
      | 9 => v_ = .bool true
      | 10 => v_ = .bool true
      | _ => v_ = .bool true) ?_ ?_ GN.refl ?_ ?_
  · rfl
  · intro k_ v_ w_ w2_ h1 hg
    split at h1 <;> exact h1
  · intro vals
    show wpO _ _ _ _ _ _ 0 (_ :: _) _
    refine wpO_cons (oop (Instr.loadAt 25 (.pointer (some ⟨g, 0, none⟩))) (.agg (insA (⟨0, 0, 0, 0, 0, 0, 0, 0, 0, false, false, false⟩ : Ins))) GN.refl fun w_ hJ hd => ?_) ?_
    · exact ⟨by kernel_rfl, by kernel_rfl, (by rw [hJ]; exact run_loadRow hy), rfl⟩
    refine wpO_cons (oval (.agg (insA (⟨0, 0, 0, 0, 0, 0, 0, 0, 0, false, false, false⟩ : Ins))) GN.refl fun w_ hJ hd => ?_) ?_
    · exact ⟨by kernel_rfl, by kernel_rfl, rfl⟩
    refine wpO_cons (oop ((do eqGuard .eql 25 (.tmp 47) (.tmp 48) (.agg (insA (⟨0, 0, 0, 0, 0, 0, 0, 0, 0, false, false, false⟩ : Ins))) (.agg (insA (⟨0, 0, 0, 0, 0, 0, 0, 0, 0, false, false, false⟩ : Ins))); binOp .eql 25 (.agg (insA (⟨0, 0, 0, 0, 0, 0, 0, 0, 0, false, false, false⟩ : Ins))) (.agg (insA (⟨0, 0, 0, 0, 0, 0, 0, 0, 0, false, false, false⟩ : Ins))))) (.bool true) GN.refl fun w_ hJ hd => ?_) ?_
    · have e0 : vals 0 = _ := hd 0 (by decide)
      have e1 : vals 1 = _ := hd 1 (by decide)
      rw [e0, e1]
      exact ⟨by kernel_rfl, by kernel_rfl, eq_awake2 w_, rfl⟩
    refine wpO_cons (oval (.bool true) GN.refl fun w_ hJ hd => ?_) ?_
    · have e2 : vals 2 = _ := hd 2 (by decide)
      rw [e2]
      exact ⟨by kernel_rfl, by kernel_rfl, rfl⟩
    refine wpO_cons (oval (.bool false) GN.refl fun w_ hJ hd => ?_) ?_
    · have e3 : vals 3 = _ := hd 3 (by decide)
      rw [e3]
      exact ⟨by kernel_rfl, by kernel_rfl, rfl⟩
    refine wpO_cons (oval (.bool true) GN.refl fun w_ hJ hd => ?_) ?_
    · have e3 : vals 3 = _ := hd 3 (by decide)
      have e4 : vals 4 = _ := hd 4 (by decide)
      rw [e3, e4]
      exact ⟨by kernel_rfl, by kernel_rfl, rfl⟩
    refine wpO_cons (oval (.bool true) GN.refl fun w_ hJ hd => ?_) ?_
    · have e3 : vals 3 = _ := hd 3 (by decide)
      have e5 : vals 5 = _ := hd 5 (by decide)
      rw [e3, e5]
      exact ⟨by kernel_rfl, by kernel_rfl, rfl⟩
    refine wpO_cons (oval (.bool true) GN.refl fun w_ hJ hd => ?_) ?_
    · have e6 : vals 6 = _ := hd 6 (by decide)
      rw [e6]
      exact ⟨by kernel_rfl, by kernel_rfl, rfl⟩
    refine wpO_cons (oval (.int .u32 0) GN.refl fun w_ hJ hd => ?_) ?_
    · have e7 : vals 7 = _ := hd 7 (by decide)
      rw [e7]
      exact ⟨by kernel_rfl, by kernel_rfl, rfl⟩
    refine wpO_cons (oval (.bool true) GN.refl fun w_ hJ hd => ?_) ?_
    · have e7 : vals 7 = _ := hd 7 (by decide)
      have e8 : vals 8 = _ := hd 8 (by decide)
      rw [e7, e8]
      exact ⟨by kernel_rfl, by kernel_rfl, rfl⟩
    refine wpO_cons (oval (.bool true) GN.refl fun w_ hJ hd => ?_) ?_
    · have e7 : vals 7 = _ := hd 7 (by decide)
      have e9 : vals 9 = _ := hd 9 (by decide)
      rw [e7, e9]
      exact ⟨by kernel_rfl, by kernel_rfl, rfl⟩
    refine wpO_cons (oval (.bool true) GN.refl fun w_ hJ hd => ?_) wpO_nil
    · have e10 : vals 10 = _ := hd 10 (by decide)
      rw [e10]
      exact ⟨by kernel_rfl, by kernel_rfl, rfl⟩
  intro vals w_ hJ hf
  have e0 : vals 0 = _ := hf 0 (by decide)
  have e1 : vals 1 = _ := hf 1 (by decide)
  have e2 : vals 2 = _ := hf 2 (by decide)
  have e3 : vals 3 = _ := hf 3 (by decide)
  have e4 : vals 4 = _ := hf 4 (by decide)
  have e5 : vals 5 = _ := hf 5 (by decide)
  have e6 : vals 6 = _ := hf 6 (by decide)
  have e7 : vals 7 = _ := hf 7 (by decide)
  have e8 : vals 8 = _ := hf 8 (by decide)
  have e9 : vals 9 = _ := hf 9 (by decide)
  have e10 : vals 10 = _ := hf 10 (by decide)
  have e11 : vals 11 = _ := hf 11 (by decide)
  simp only [fillG, Nat.zero_add, Nat.reduceAdd, e0, e1, e2, e3, e4, e5, e6, e7, e8, e9, e10, e11, Act.put, List.setIfInBounds_toArray, List.set_cons_succ, List.set_cons_zero]
  clear e0 e1 e2 e3 e4 e5 e6 e7 e8 e9 e10 e11 hf
  obtain rfl : W5 = w_ := by first | assumption | (symm; assumption)
  go_wp2
  go_ret
  exact ⟨rfl, hgW5⟩
theorem back_walk (b : Nat) (hb : b < 4294967296) (x : Ins) (hw : WFI x) (w : World) : Calls Try.prog 5 #[.int .u32 b, .agg (insA x)] w fun e w' => e = .returned (.bool true) ∧ GN w w' := by
  obtain ⟨k, rd, r1, r2, r3, rm, c, sz, i, ui, us, wd⟩ := x
  have hwy := dec_wf b
  have k0 := k0_dec b
  have hback := enc_back (b := b) hb
  have hcan := dec_canon (b := b) hb
  obtain ⟨hcl, hca⟩ := canon_le hb
  have hz := andnot_zero hcl hca
  rcases hy : decN b with ⟨ky, rdy, r1y, r2y, r3y, rmy, cy, szy, iy, uiy, usy, wdy⟩
  rw [hy] at hwy k0 hback hcan
  cases hE : encN (⟨k, rd, r1, r2, r3, rm, c, sz, i, ui, us, wd⟩ : Ins) with
  | mk s ok =>
    cases ok with
    | true =>
      obtain ⟨hd, hs, hk⟩ := enc_yes hE
      by_cases nk : ky = 0
      · have := k0 nk
        rw [this] at hy hwy
        exact back_yn b hb k rd r1 r2 r3 rm c sz i ui us wd hw s hs hd hk hE hwy hy enc_zero w
      · exact back_yy b hb k rd r1 r2 r3 rm c sz i ui us wd hw s hs hd hk hE ky rdy r1y r2y r3y rmy cy szy iy uiy usy wdy hwy hy (ne_b nk) _ hcl (hcan nk) hz (hback nk) w
    | false =>
      have hs0 := enc_not hE
      subst hs0
      by_cases nk : ky = 0
      · have := k0 nk
        rw [this] at hy hwy
        exact back_nn b hb k rd r1 r2 r3 rm c sz i ui us wd hw hE hwy hy enc_zero w
      · exact back_ny b hb k rd r1 r2 r3 rm c sz i ui us wd hw hE ky rdy r1y r2y r3y rmy cy szy iy uiy usy wdy hwy hy (ne_b nk) _ hcl (hcan nk) hz (hback nk) w
end Go.Proofs.Ytopbdiekfhikmaa
