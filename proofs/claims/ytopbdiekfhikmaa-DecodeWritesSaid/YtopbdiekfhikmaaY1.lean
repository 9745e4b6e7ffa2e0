/- Layer 3, the document's side: system: the first loop. / Layer 3, the document's side: system: the second loop. / Layer 3, the document's side: system: the inner loop. / Layer 3, the document's side: system: the last loop. -/
import Derived.Test.YtopbdiekfhikmaaW4
import Derived.Deep.CutRange
namespace Go.Proofs.Ytopbdiekfhikmaa
open Go.RowKit
def alS (k : Nat) : Int := if k = 0 then 115 else if k = 1 then 1048691 else if k = 2 then 270532723 else if k = 3 then 807403635 else if k = 4 then 273678451 else 0
def kdT (k : Nat) : Int := if k = 0 then 33 else if k = 1 then 34 else if k = 2 then 50 else if k = 3 then 49 else if k = 4 then 51 else 0
def ks2 : List Value := [.int .u32 115, .int .u32 1048691, .int .u32 270532723, .int .u32 807403635, .int .u32 273678451]
def ks3 : List Value := [.int .i64 33, .int .i64 34, .int .i64 50, .int .i64 49, .int .i64 51]
def sA (k : Nat) : List RowS := [⟨4294967295, alS k, kdT k, ⟨#[]⟩, 0, false, false⟩]
theorem sy_at {w0 w9 : World} {M : HP} {L : List HP} {g2 g3 k : Nat} (hk : k < 5) (h : Heap w0 w9 (M :: HP.slw (.slice (some ⟨g2, 0, none⟩) 5 5) 1 5 ks2 :: HP.slw (.slice (some ⟨g3, 0, none⟩) 5 5) 1 5 ks3 :: L)) : w9.cell? ⟨g2, k, none⟩ = some (.int .u32 (alS k)) ∧ w9.cell? ⟨g3, k, none⟩ = some (.int .i64 (kdT k)) := by
  have hc : k = 0 ∨ k = 1 ∨ k = 2 ∨ k = 3 ∨ k = 4 := by omega
  refine ⟨slw_at h.tail ?_, slw_at h.tail.tail ?_⟩ <;> (rcases hc with rfl | rfl | rfl | rfl | rfl <;> rfl)
def loopsOfY1 : Code → List Code
  | .loop c => [c]
  | .seq a b => loopsOfY1 a ++ loopsOfY1 b
  | .block _ c => loopsOfY1 c
  | .scope c => loopsOfY1 c
  | .cond _ a b => loopsOfY1 a ++ loopsOfY1 b
  | _ => []
noncomputable def bodyY1 : Code := ((Try.f42.body.map loopsOfY1).getD []).getD 0 .skip
set_option maxRecDepth 1000000 in
def FRY1 (c0 c5 c6 c7 c8 c9 x0 x1 x2 x3 x4 x5 x6 x7 x8 xR xS xT xU xV xW xX xY xZ xa xb xc xd xe xf xg xh xi xj x9 xk xl xm xn xo xp xq xr xt xu xv xw y0 y1 y2 y3 y4 y5 y6 y7 y8 y9 yA yB yC yD yE yF yG yH yI yJ yK yL yM xA : Value) (A : Option Addr) (m cap g2 g3 k : Nat) (a : Act) : Prop := ∃ yf : Value, ∃ yg : Value, ∃ yh : Value, ∃ yi : Value, ∃ yj : Value, ∃ yk : Value, ∃ yl : Value, ∃ ym : Value, ∃ yn : Value, ∃ yo : Value, ∃ yp : Value, ∃ yq : Value, ∃ yr : Value, ∃ yt : Value, ∃ yu : Value, ∃ yv : Value, a = ⟨#[c0, .slice A m cap, .slice (some ⟨g2, 0, none⟩) 5 5, .slice (some ⟨g3, 0, none⟩) 5 5, .int .i64 (k : Int), c5, c6, c7, c8, c9, x0, x1, x2, x3, x4, yf, yg, yh, yi, yj, yk, yl, ym, yn, yo, yp, yq, yr, yt, yu, yv, x5, x6, x7, x8, xR, xS, xT, xU, xV, xW, xX, xY, xZ, xa, xb, xc, xd, xe, xf, xg, xh, xi, xj, x9, xk, xl, xm, xn, xo, xp, xq, xr, xt, xu, xv, xw, y0, y1, y2, y3, y4, y5, y6, y7, y8, y9, yA, yB, yC, yD, yE, yF, yG, yH, yI, yJ, yK, yL, yM, xA], []⟩
def WIY1 (c0 c5 c6 c7 c8 c9 x0 x1 x2 x3 x4 x5 x6 x7 x8 xR xS xT xU xV xW xX xY xZ xa xb xc xd xe xf xg xh xi xj x9 xk xl xm xn xo xp xq xr xt xu xv xw y0 y1 y2 y3 y4 y5 y6 y7 y8 y9 yA yB yC yD yE yF yG yH yI yJ yK yL yM xA : Value) (w0 : World) (L : List HP) (B : List RowS) (n0 g2 g3 : Nat) (a : Act) (wr : World) : Prop := ∃ (k : Nat) (A : Option Addr) (m cap : Nat), (k ≤ 5 ∧ m ≤ n0 + k ∧ Heap w0 wr (HP.slw (.slice A m cap) 7 m (rowsC (B ++ uptoL sA (k))) :: HP.slw (.slice (some ⟨g2, 0, none⟩) 5 5) 1 5 ks2 :: HP.slw (.slice (some ⟨g3, 0, none⟩) 5 5) 1 5 ks3 :: L)) ∧ FRY1 c0 c5 c6 c7 c8 c9 x0 x1 x2 x3 x4 x5 x6 x7 x8 xR xS xT xU xV xW xX xY xZ xa xb xc xd xe xf xg xh xi xj x9 xk xl xm xn xo xp xq xr xt xu xv xw y0 y1 y2 y3 y4 y5 y6 y7 y8 y9 yA yB yC yD yE yF yG yH yI yJ yK yL yM xA A m cap g2 g3 k a
def WXY1 (c0 c5 c6 c7 c8 c9 x0 x1 x2 x3 x4 x5 x6 x7 x8 xR xS xT xU xV xW xX xY xZ xa xb xc xd xe xf xg xh xi xj x9 xk xl xm xn xo xp xq xr xt xu xv xw y0 y1 y2 y3 y4 y5 y6 y7 y8 y9 yA yB yC yD yE yF yG yH yI yJ yK yL yM xA : Value) (w0 : World) (L : List HP) (B : List RowS) (n0 g2 g3 : Nat) (a : Act) (wr : World) : Prop := ∃ (A : Option Addr) (m cap : Nat), (m ≤ n0 + 5 ∧ Heap w0 wr (HP.slw (.slice A m cap) 7 m (rowsC (B ++ uptoL sA (5))) :: HP.slw (.slice (some ⟨g2, 0, none⟩) 5 5) 1 5 ks2 :: HP.slw (.slice (some ⟨g3, 0, none⟩) 5 5) 1 5 ks3 :: L)) ∧ FRY1 c0 c5 c6 c7 c8 c9 x0 x1 x2 x3 x4 x5 x6 x7 x8 xR xS xT xU xV xW xX xY xZ xa xb xc xd xe xf xg xh xi xj x9 xk xl xm xn xo xp xq xr xt xu xv xw y0 y1 y2 y3 y4 y5 y6 y7 y8 y9 yA yB yC yD yE yF yG yH yI yJ yK yL yM xA A m cap g2 g3 5 a
def WmuY1 (K : Nat) (a : Act) (_ : World) : Nat := K - (intOf (a.tmps.getD 4 undef)).toNat
variable {w0 : World} {L : List HP} {B : List RowS} {n0 g2 g3 : Nat}
set_option maxRecDepth 1000000 in
set_option maxHeartbeats 8000000 in
theorem oneY1 (hn : n0 ≤ 200) {A : Option Addr} {m cap k : Nat} {wr : World} (hm : m ≤ n0 + k) (hJ : Heap w0 wr (HP.slw (.slice A m cap) 7 m (rowsC (B ++ uptoL sA (k))) :: HP.slw (.slice (some ⟨g2, 0, none⟩) 5 5) 1 5 ks2 :: HP.slw (.slice (some ⟨g3, 0, none⟩) 5 5) 1 5 ks3 :: L)) (hlt : k < 5) (Q0 : Exit → Act → World → Prop) (c0 c5 c6 c7 c8 c9 x0 x1 x2 x3 x4 x5 x6 x7 x8 xR xS xT xU xV xW xX xY xZ xa xb xc xd xe xf xg xh xi xj x9 xk xl xm xn xo xp xq xr xt xu xv xw y0 y1 y2 y3 y4 y5 y6 y7 y8 y9 yA yB yC yD yE yF yG yH yI yJ yK yL yM xA yf yg yh yi yj yk yl ym yn yo yp yq yr yt yu yv : Value) :
    Code.wp Try.prog bodyY1 (Exit.then (fun a' w'' => WIY1 c0 c5 c6 c7 c8 c9 x0 x1 x2 x3 x4 x5 x6 x7 x8 xR xS xT xU xV xW xX xY xZ xa xb xc xd xe xf xg xh xi xj x9 xk xl xm xn xo xp xq xr xt xu xv xw y0 y1 y2 y3 y4 y5 y6 y7 y8 y9 yA yB yC yD yE yF yG yH yI yJ yK yL yM xA w0 L B n0 g2 g3 a' w'' ∧ WmuY1 5 a' w'' < 5 - k) Q0) ⟨#[c0, .slice A m cap, .slice (some ⟨g2, 0, none⟩) 5 5, .slice (some ⟨g3, 0, none⟩) 5 5, .int .i64 (k : Int), c5, c6, c7, c8, c9, x0, x1, x2, x3, x4, yf, yg, yh, yi, yj, yk, yl, ym, yn, yo, yp, yq, yr, yt, yu, yv, x5, x6, x7, x8, xR, xS, xT, xU, xV, xW, xX, xY, xZ, xa, xb, xc, xd, xe, xf, xg, xh, xi, xj, x9, xk, xl, xm, xn, xo, xp, xq, xr, xt, xu, xv, xw, y0, y1, y2, y3, y4, y5, y6, y7, y8, y9, yA, yB, yC, yD, yE, yF, yG, yH, yI, yJ, yK, yL, yM, xA], []⟩ wr := by
  conv => arg 2; whnf
  have Hsp_ : Hid (∀ g, spare (.slice A m cap) = some g → g < wr.heap.size) := hide fun g hg => hJ.slw.blk_lt (spare_blk hg)
  have HJ := hide hJ
  clear hJ
  obtain ⟨i1, hi1, hz0, hz1, hz2⟩ := info_parts info49
  have FAg2 := hide (fun w => (ix_at (P := Try.prog) 71 22 Try.underlying71 (by kernel_rfl) g2 5 5 k hlt w))
  have FAg3 := hide (fun w => (ix_at (P := Try.prog) 63 3 Try.underlying63 (by kernel_rfl) g3 5 5 k hlt w))
  go_wp2_with fail
  refine wp_region_XE 11 (fun fl_ w_ => wr.heap.size ≤ w_.heap.size ∧ (fl_ = false → Heap w0 w_ (HP.slw (.slice A m cap) 7 (m) (rowsC (B ++ uptoL sA k)) :: HP.slw (.slice (some ⟨g2, 0, none⟩) 5 5) 1 5 ks2 :: HP.slw (.slice (some ⟨g3, 0, none⟩) 5 5) 1 5 ks3 :: L)) ∧ ∃ M_, Heap w0 w_ (M_ :: HP.slw (.slice (some ⟨g2, 0, none⟩) 5 5) 1 5 ks2 :: HP.slw (.slice (some ⟨g3, 0, none⟩) 5 5) 1 5 ks3 :: L)) (fun i_ x_ y_ => match i_ with | 11 => x_.grownBy y_ (spare (.slice A m cap)) | _ => (∀ L_, Heap w0 x_ L_ → Heap w0 y_ L_) ∧ GN x_ y_) (fun k_ v_ w_ => match k_ with
      | 0 => v_ = .slice A m cap
      | 1 => v_ = .slice (some ⟨g2, 0, none⟩) 5 5
      | 2 => v_ = .int .i64 (k : Int)
      | 3 => v_ = .pointer (some ⟨g2, k, none⟩)
      | 4 => v_ = .int .u32 (alS k)
      | 5 => v_ = .slice (some ⟨g3, 0, none⟩) 5 5
      | 6 => v_ = .int .i64 (k : Int)
      | 7 => v_ = .pointer (some ⟨g3, k, none⟩)
      | 8 => v_ = .int .i64 (kdT k)
      | 9 => v_ = .agg #[.int .u32 4294967295, .int .u32 (alS k), .int .i64 (kdT k), .string ⟨#[]⟩, .int .i64 0, .bool false, .bool false]
      | 10 => ∃ kk : Nat, v_ = .slice (some ⟨kk, 0, none⟩) 1 1 ∧ wr.heap.size ≤ kk ∧ w_.heap[kk]? = some (.cells (rowsC (sA k)).toArray 49 (0, 0))
      | 11 => Heap w0 w_ (HP.slw v_ 7 (m + 1) (rowsC (B ++ uptoL sA k) ++ rowsC (sA k)) :: HP.slw (.slice (some ⟨g2, 0, none⟩) 5 5) 1 5 ks2 :: HP.slw (.slice (some ⟨g3, 0, none⟩) 5 5) 1 5 ks3 :: L)
      | _ => True) fol (by kernel_rfl) ?_ ?_ (by decide) (n := 12) rfl rfl rfl (by kernel_rfl) ?_ ?_
  · exact ⟨Nat.le_refl _, fun _ => (unhide HJ).drew, ⟨_, (unhide HJ).drew⟩⟩
  · intro i_ k_ v_ w_ w2_ hne h1 hg
    split at h1
    all_goals first
      | exact h1
      | (obtain ⟨kk, e_, q_, r_⟩ := h1; split at hg; exact ⟨kk, e_, q_, (World.grownBy.block hg kk (lt_of_heap' r_) (fun c_ => by have := unhide Hsp_ _ c_.symm; omega)).trans r_⟩; exact ⟨kk, e_, q_, hg.2.heap r_⟩)
      | (split at hg; exact absurd rfl hne; exact hg.1 _ h1)
  · intro vals
    show wpX _ _ _ _ _ _ _ 0 (_ :: _) _
    refine wpX_cons (xval (.slice A m cap) (fun _ => ⟨fun _ h_ => h_, GN.refl _⟩) (by decide) fun fl_ w_ hJ hd => ?_) ?_
    · exact ⟨by kernel_rfl, by kernel_rfl, rfl⟩
    refine wpX_cons (xval (.slice (some ⟨g2, 0, none⟩) 5 5) (fun _ => ⟨fun _ h_ => h_, GN.refl _⟩) (by decide) fun fl_ w_ hJ hd => ?_) ?_
    · exact ⟨by kernel_rfl, by kernel_rfl, rfl⟩
    refine wpX_cons (xval (.int .i64 (k : Int)) (fun _ => ⟨fun _ h_ => h_, GN.refl _⟩) (by decide) fun fl_ w_ hJ hd => ?_) ?_
    · exact ⟨by kernel_rfl, by kernel_rfl, rfl⟩
    refine wpX_cons (xop (Instr.indexAt 71 (.slice (some ⟨g2, 0, none⟩) 5 5) (.int .i64 (k : Int))) (.pointer (some ⟨g2, k, none⟩)) (fun _ => ⟨fun _ h_ => h_, GN.refl _⟩) (by decide) fun fl_ w_ hJ hd => ?_) ?_
    · have e1 : vals 1 = _ := hd 1 (by decide) (by kernel_rfl)
      have e2 : vals 2 = _ := hd 2 (by decide) (by kernel_rfl)
      rw [e1, e2]
      exact ⟨by kernel_rfl, by kernel_rfl, unhide FAg2 w_, rfl⟩
    refine wpX_cons (xop (Instr.loadAt 22 (.pointer (some ⟨g2, k, none⟩))) (.int .u32 (alS k)) (fun _ => ⟨fun _ h_ => h_, GN.refl _⟩) (by decide) fun fl_ w_ hJ hd => ?_) ?_
    · have e3 : vals 3 = _ := hd 3 (by decide) (by kernel_rfl)
      rw [e3]
      obtain ⟨M_, hM_⟩ := hJ.2.2
      exact ⟨by kernel_rfl, by kernel_rfl, run_load1 (by kernel_rfl) ((sy_at hlt hM_).1), rfl⟩
    refine wpX_cons (xval (.slice (some ⟨g3, 0, none⟩) 5 5) (fun _ => ⟨fun _ h_ => h_, GN.refl _⟩) (by decide) fun fl_ w_ hJ hd => ?_) ?_
    · exact ⟨by kernel_rfl, by kernel_rfl, rfl⟩
    refine wpX_cons (xval (.int .i64 (k : Int)) (fun _ => ⟨fun _ h_ => h_, GN.refl _⟩) (by decide) fun fl_ w_ hJ hd => ?_) ?_
    · exact ⟨by kernel_rfl, by kernel_rfl, rfl⟩
    refine wpX_cons (xop (Instr.indexAt 63 (.slice (some ⟨g3, 0, none⟩) 5 5) (.int .i64 (k : Int))) (.pointer (some ⟨g3, k, none⟩)) (fun _ => ⟨fun _ h_ => h_, GN.refl _⟩) (by decide) fun fl_ w_ hJ hd => ?_) ?_
    · have e5 : vals 5 = _ := hd 5 (by decide) (by kernel_rfl)
      have e6 : vals 6 = _ := hd 6 (by decide) (by kernel_rfl)
      rw [e5, e6]
      exact ⟨by kernel_rfl, by kernel_rfl, unhide FAg3 w_, rfl⟩
    refine wpX_cons (xop (Instr.loadAt 3 (.pointer (some ⟨g3, k, none⟩))) (.int .i64 (kdT k)) (fun _ => ⟨fun _ h_ => h_, GN.refl _⟩) (by decide) fun fl_ w_ hJ hd => ?_) ?_
    · have e7 : vals 7 = _ := hd 7 (by decide) (by kernel_rfl)
      rw [e7]
      obtain ⟨M_, hM_⟩ := hJ.2.2
      exact ⟨by kernel_rfl, by kernel_rfl, run_load1 (by kernel_rfl) ((sy_at hlt hM_).2), rfl⟩
    refine wpX_cons (xval (.agg #[.int .u32 4294967295, .int .u32 (alS k), .int .i64 (kdT k), .string ⟨#[]⟩, .int .i64 0, .bool false, .bool false]) (fun _ => ⟨fun _ h_ => h_, GN.refl _⟩) (by decide) fun fl_ w_ hJ hd => ?_) ?_
    · have e4 : vals 4 = _ := hd 4 (by decide) (by kernel_rfl)
      have e8 : vals 8 = _ := hd 8 (by decide) (by kernel_rfl)
      rw [e4, e8]
      exact ⟨by kernel_rfl, by kernel_rfl, rfl⟩
    refine wpX_cons (xmake (by decide) fun fl_ w_ hJ hd => ?_) ?_
    · have e9 : vals 9 = _ := hd 9 (by decide) (by kernel_rfl)
      rw [e9]
      exact ⟨by kernel_rfl, _, w_.alloc (.cells (rowsC (sA k)).toArray 49), (by kernel_rfl : _ = Result.ok (Next.value (.slice (some ⟨w_.heap.size, 0, none⟩) 1 1)) _), ⟨Nat.le_trans hJ.1 (by simp), fun h_ => (hJ.2.1 h_).alloc _, hJ.2.2.imp fun _ h_ => h_.alloc _⟩, ⟨fun _ h_ => h_.alloc _, (GN.refl _).alloc _⟩, w_.heap.size, rfl, hJ.1, heap_new' w_ _⟩
    refine wpX_cons (xevent rfl fun w_ hJ hd => ?_) wpX_nil
    · have e0 : vals 0 = _ := hd 0 (by decide) (by kernel_rfl)
      have e10 : ∃ kk : Nat, (vals 10) = .slice (some ⟨kk, 0, none⟩) 1 1 ∧ wr.heap.size ≤ kk ∧ w_.heap[kk]? = some (.cells (rowsC (sA k)).toArray 49 (0, 0)) := hd 10 (by decide) (by kernel_rfl)
      rw [e0]
      obtain ⟨kk, e_, q_, r_⟩ := e10
      rw [e_]
      have hB_ := hJ.2.1 rfl
      obtain ⟨v', w', hr_, hsl_, hgr_, hblk_, _⟩ := run_append_sl (P := Try.prog) w_ 46 46 49 i1 _ 7 48 Try.underlying46 hi1 hz0 hz1 hz2 rfl hB_.slw (sl_blk (n := 1) (sz := 7) (xs := rowsC (sA k)) r_ rfl) (rowsC_cells _) (by omega) (by omega)
      have hA_ := hB_.appendw hsl_ hgr_ hblk_
      exact ⟨by kernel_rfl, v', w', Eq.trans (b := Sem.run Try.prog (do let r ← Builtin.append_ #[46, 46] 46 #[.slice A m cap, .slice (some ⟨kk, 0, none⟩) 1 1]; pure (Next.value r)) w_) (by kernel_rfl) (run_val hr_), ⟨Nat.le_trans hJ.1 hgr_.size, fun h_ => (by cases h_), ⟨_, hA_⟩⟩, hgr_, hA_⟩
  · intro vals w_ hJ hf
    have e0 : vals 0 = _ := hf 0 (by decide)
    have e1 : vals 1 = _ := hf 1 (by decide)
    have e2 : vals 2 = _ := hf 2 (by decide)
    have e3 : vals 3 = _ := hf 3 (by decide)
    have e4 : vals 4 = _ := hf 4 (by decide)
    have e5 : vals 5 = _ := hf 5 (by decide)
    have e6 : vals 6 = _ := hf 6 (by decide)
    have e7 : vals 7 = _ := hf 7 (by decide)
    have e8 : vals 8 = _ := hf 8 (by decide)
    have e9 : vals 9 = _ := hf 9 (by decide)
    have e11 : Heap w0 w_ (HP.slw (vals 11) 7 (m + 1) (rowsC (B ++ uptoL sA k) ++ rowsC (sA k)) :: HP.slw (.slice (some ⟨g2, 0, none⟩) 5 5) 1 5 ks2 :: HP.slw (.slice (some ⟨g3, 0, none⟩) 5 5) 1 5 ks3 :: L) := hf 11 (by decide)
    show Oper.wp _ _ (fillG vals 0 (_ :: _ :: _ :: _ :: _ :: _ :: _ :: _ :: _ :: _ :: _ :: _ :: []) _) _ _ _
    simp only [fillG, Nat.zero_add, Nat.reduceAdd, e0, e1, e2, e3, e4, e5, e6, e7, e8, e9, Act.put, List.setIfInBounds_toArray, List.set_cons_succ, List.set_cons_zero]
    clear e0 e1 e2 e3 e4 e5 e6 e7 e8 e9 hf
    generalize vals 10 = v10 at *
    generalize vals 11 = v11 at *
    refine wp_last_value (v := v11) (w' := w_) (by kernel_rfl) ?_
    simp only [Act.put, List.setIfInBounds_toArray]
    obtain ⟨A', cap', rfl, _⟩ := e11.slw.parts
    have HE := hide e11
    clear e11 hJ
    go_wp2
    have e7 : (k : Int) + 1 = ((k + 1 : Nat) : Int) := rfl
    try rw [e7]
    refine ⟨⟨k + 1, A', m + 1, cap', ⟨by omega, by omega, by rw [uptoL_succ, ← List.append_assoc, rowsC_app]; exact unhide HE⟩, ?_⟩, by simp [WmuY1, intOf]; omega⟩
    unfold FRY1
    refine ⟨_, _, _, _, _, _, _, _, _, _, _, _, _, _, _, _, rfl⟩
set_option maxRecDepth 1000000 in
set_option maxHeartbeats 8000000 in
theorem roundY1 (hn : n0 ≤ 200) (Q0 : Exit → Act → World → Prop) (c0 c5 c6 c7 c8 c9 x0 x1 x2 x3 x4 x5 x6 x7 x8 xR xS xT xU xV xW xX xY xZ xa xb xc xd xe xf xg xh xi xj x9 xk xl xm xn xo xp xq xr xt xu xv xw y0 y1 y2 y3 y4 y5 y6 y7 y8 y9 yA yB yC yD yE yF yG yH yI yJ yK yL yM xA : Value) (hexit : ∀ a' w'', WXY1 c0 c5 c6 c7 c8 c9 x0 x1 x2 x3 x4 x5 x6 x7 x8 xR xS xT xU xV xW xX xY xZ xa xb xc xd xe xf xg xh xi xj x9 xk xl xm xn xo xp xq xr xt xu xv xw y0 y1 y2 y3 y4 y5 y6 y7 y8 y9 yA yB yC yD yE yF yG yH yI yJ yK yL yM xA w0 L B n0 g2 g3 a' w'' → Q0 (.exit 0) a' w'') {a : Act} {wr : World} (hI : WIY1 c0 c5 c6 c7 c8 c9 x0 x1 x2 x3 x4 x5 x6 x7 x8 xR xS xT xU xV xW xX xY xZ xa xb xc xd xe xf xg xh xi xj x9 xk xl xm xn xo xp xq xr xt xu xv xw y0 y1 y2 y3 y4 y5 y6 y7 y8 y9 yA yB yC yD yE yF yG yH yI yJ yK yL yM xA w0 L B n0 g2 g3 a wr) :
    Code.wp Try.prog bodyY1 (Exit.then (fun a' w'' => WIY1 c0 c5 c6 c7 c8 c9 x0 x1 x2 x3 x4 x5 x6 x7 x8 xR xS xT xU xV xW xX xY xZ xa xb xc xd xe xf xg xh xi xj x9 xk xl xm xn xo xp xq xr xt xu xv xw y0 y1 y2 y3 y4 y5 y6 y7 y8 y9 yA yB yC yD yE yF yG yH yI yJ yK yL yM xA w0 L B n0 g2 g3 a' w'' ∧ WmuY1 5 a' w'' < WmuY1 5 a wr) Q0) a wr := by
  obtain ⟨k, A, m, cap, ⟨hk, hm, hJ⟩, hF⟩ := hI
  unfold FRY1 at hF
  obtain ⟨yf, hF⟩ := hF
  obtain ⟨yg, hF⟩ := hF
  obtain ⟨yh, hF⟩ := hF
  obtain ⟨yi, hF⟩ := hF
  obtain ⟨yj, hF⟩ := hF
  obtain ⟨yk, hF⟩ := hF
  obtain ⟨yl, hF⟩ := hF
  obtain ⟨ym, hF⟩ := hF
  obtain ⟨yn, hF⟩ := hF
  obtain ⟨yo, hF⟩ := hF
  obtain ⟨yp, hF⟩ := hF
  obtain ⟨yq, hF⟩ := hF
  obtain ⟨yr, hF⟩ := hF
  obtain ⟨yt, hF⟩ := hF
  obtain ⟨yu, hF⟩ := hF
  obtain ⟨yv, hF⟩ := hF
  subst hF
  by_cases hlt : k < 5
  · exact oneY1 hn hm hJ hlt Q0 _ _ _ _ _ _ _ _ _ _ _ _ _ _ _ _ _ _ _ _ _ _ _ _ _ _ _ _ _ _ _ _ _ _ _ _ _ _ _ _ _ _ _ _ _ _ _ _ _ _ _ _ _ _ _ _ _ _ _ _ _ _ _ _ _ _ _ _ _ _ _ _ _ _ _ _ _ _ _ _ _ _ _ _ _ _ _
  · obtain rfl : k = 5 := by omega
    have HJ := hide hJ
    clear hJ
    conv => arg 2; whnf
    go_wp2
    refine ⟨A, m, cap, ⟨by omega, unhide HJ⟩, ?_⟩
    unfold FRY1
    refine ⟨_, _, _, _, _, _, _, _, _, _, _, _, _, _, _, _, rfl⟩
set_option maxRecDepth 1000000 in
theorem loopY1 (hn : n0 ≤ 200) (Q0 : Exit → Act → World → Prop) (c0 c5 c6 c7 c8 c9 x0 x1 x2 x3 x4 x5 x6 x7 x8 xR xS xT xU xV xW xX xY xZ xa xb xc xd xe xf xg xh xi xj x9 xk xl xm xn xo xp xq xr xt xu xv xw y0 y1 y2 y3 y4 y5 y6 y7 y8 y9 yA yB yC yD yE yF yG yH yI yJ yK yL yM xA : Value) {A : Option Addr} {m cap : Nat} {wr : World} (hm : m ≤ n0) (hJ : Heap w0 wr (HP.slw (.slice A m cap) 7 m (rowsC B) :: HP.slw (.slice (some ⟨g2, 0, none⟩) 5 5) 1 5 ks2 :: HP.slw (.slice (some ⟨g3, 0, none⟩) 5 5) 1 5 ks3 :: L)) (yf yg yh yi yj yk yl ym yn yo yp yq yr yt yu yv : Value) (hexit : ∀ a' w'', WXY1 c0 c5 c6 c7 c8 c9 x0 x1 x2 x3 x4 x5 x6 x7 x8 xR xS xT xU xV xW xX xY xZ xa xb xc xd xe xf xg xh xi xj x9 xk xl xm xn xo xp xq xr xt xu xv xw y0 y1 y2 y3 y4 y5 y6 y7 y8 y9 yA yB yC yD yE yF yG yH yI yJ yK yL yM xA w0 L B n0 g2 g3 a' w'' → Q0 (.exit 0) a' w'') :
    Code.wp Try.prog (Code.loop bodyY1) Q0 ⟨#[c0, .slice A m cap, .slice (some ⟨g2, 0, none⟩) 5 5, .slice (some ⟨g3, 0, none⟩) 5 5, .int .i64 0, c5, c6, c7, c8, c9, x0, x1, x2, x3, x4, yf, yg, yh, yi, yj, yk, yl, ym, yn, yo, yp, yq, yr, yt, yu, yv, x5, x6, x7, x8, xR, xS, xT, xU, xV, xW, xX, xY, xZ, xa, xb, xc, xd, xe, xf, xg, xh, xi, xj, x9, xk, xl, xm, xn, xo, xp, xq, xr, xt, xu, xv, xw, y0, y1, y2, y3, y4, y5, y6, y7, y8, y9, yA, yB, yC, yD, yE, yF, yG, yH, yI, yJ, yK, yL, yM, xA], []⟩ wr := by
  refine wp_loop (WIY1 c0 c5 c6 c7 c8 c9 x0 x1 x2 x3 x4 x5 x6 x7 x8 xR xS xT xU xV xW xX xY xZ xa xb xc xd xe xf xg xh xi xj x9 xk xl xm xn xo xp xq xr xt xu xv xw y0 y1 y2 y3 y4 y5 y6 y7 y8 y9 yA yB yC yD yE yF yG yH yI yJ yK yL yM xA w0 L B n0 g2 g3) (WmuY1 5) ⟨0, A, m, cap, ⟨by omega, by omega, by rw [show uptoL sA 0 = [] from rfl, List.append_nil]; exact hJ⟩, ?_⟩ (fun a w'' hI => roundY1 hn Q0 c0 c5 c6 c7 c8 c9 x0 x1 x2 x3 x4 x5 x6 x7 x8 xR xS xT xU xV xW xX xY xZ xa xb xc xd xe xf xg xh xi xj x9 xk xl xm xn xo xp xq xr xt xu xv xw y0 y1 y2 y3 y4 y5 y6 y7 y8 y9 yA yB yC yD yE yF yG yH yI yJ yK yL yM xA hexit hI)
  unfold FRY1
  exact ⟨yf, yg, yh, yi, yj, yk, yl, ym, yn, yo, yp, yq, yr, yt, yu, yv, rfl⟩
end Go.Proofs.Ytopbdiekfhikmaa
namespace Go.Proofs.Ytopbdiekfhikmaa
open Go.RowKit
def sB (k : Nat) : List RowS := ([[⟨28799, 4211, 35, ⟨#[100, 49, 99]⟩, 0, false, false⟩, ⟨28799, 20595, 35, ⟨#[100, 99, 122, 61]⟩, 0, false, false⟩], [⟨28799, 8307, 36, ⟨#[100, 49, 99]⟩, 0, false, false⟩, ⟨28799, 24691, 36, ⟨#[100, 99, 122, 61]⟩, 0, false, false⟩], [⟨28799, 12403, 37, ⟨#[100, 49, 99]⟩, 0, false, false⟩, ⟨28799, 28787, 37, ⟨#[100, 99, 122, 61]⟩, 0, false, false⟩]][k]?).getD []
def loopsOfY2 : Code → List Code
  | .loop c => [c]
  | .seq a b => loopsOfY2 a ++ loopsOfY2 b
  | .block _ c => loopsOfY2 c
  | .scope c => loopsOfY2 c
  | .cond _ a b => loopsOfY2 a ++ loopsOfY2 b
  | _ => []
noncomputable def bodyY2 : Code := ((Try.f42.body.map loopsOfY2).getD []).getD 1 .skip
set_option maxRecDepth 1000000 in
def FRY2 (c0 c2 c3 c4 c6 c7 c8 c9 x0 x1 x2 x3 x4 xB xC xD xE xF xG xH xI xJ xK xL xM xN xO xP xQ x5 x6 x7 x8 x9 xk xl xm xn xo xp xq xr xt xu xv xw y0 y1 y2 y3 y4 y5 y6 y7 y8 y9 yA yB yC yD yE yF yG yH yI yJ yK yL yM xA : Value) (A : Option Addr) (m cap : Nat) (ck : Int)  (a : Act) : Prop := ∃ yw : Value, ∃ z0 : Value, ∃ z1 : Value, ∃ z2 : Value, ∃ z3 : Value, ∃ z4 : Value, ∃ z5 : Value, ∃ z6 : Value, ∃ z7 : Value, ∃ z8 : Value, ∃ z9 : Value, ∃ zA : Value, ∃ zB : Value, ∃ zC : Value, ∃ zD : Value, ∃ zE : Value, ∃ zF : Value, ∃ zG : Value, ∃ zH : Value, a = ⟨#[c0, .slice A m cap, c2, c3, c4, .int .i64 ck, c6, c7, c8, c9, x0, x1, x2, x3, x4, xB, xC, xD, xE, xF, xG, xH, xI, xJ, xK, xL, xM, xN, xO, xP, xQ, x5, x6, x7, x8, yw, z0, z1, z2, z3, z4, z5, z6, z7, z8, z9, zA, zB, zC, zD, zE, zF, zG, zH, x9, xk, xl, xm, xn, xo, xp, xq, xr, xt, xu, xv, xw, y0, y1, y2, y3, y4, y5, y6, y7, y8, y9, yA, yB, yC, yD, yE, yF, yG, yH, yI, yJ, yK, yL, yM, xA], []⟩
def WIY2 (c0 c2 c3 c4 c6 c7 c8 c9 x0 x1 x2 x3 x4 xB xC xD xE xF xG xH xI xJ xK xL xM xN xO xP xQ x5 x6 x7 x8 x9 xk xl xm xn xo xp xq xr xt xu xv xw y0 y1 y2 y3 y4 y5 y6 y7 y8 y9 yA yB yC yD yE yF yG yH yI yJ yK yL yM xA : Value) (w0 : World) (L : List HP) (B : List RowS) (n0 : Nat)  (a : Act) (wr : World) : Prop := ∃ (k : Nat) (ck : Int) (A : Option Addr) (m cap : Nat), (ck = (k : Int) ∧ k ≤ 3 ∧ m ≤ n0 + 2 * k ∧ Heap w0 wr (HP.slw (.slice A m cap) 7 m (rowsC (B ++ uptoL (sB) (k))) :: L)) ∧ FRY2 c0 c2 c3 c4 c6 c7 c8 c9 x0 x1 x2 x3 x4 xB xC xD xE xF xG xH xI xJ xK xL xM xN xO xP xQ x5 x6 x7 x8 x9 xk xl xm xn xo xp xq xr xt xu xv xw y0 y1 y2 y3 y4 y5 y6 y7 y8 y9 yA yB yC yD yE yF yG yH yI yJ yK yL yM xA A m cap ck  a
def WXY2 (c0 c2 c3 c4 c6 c7 c8 c9 x0 x1 x2 x3 x4 xB xC xD xE xF xG xH xI xJ xK xL xM xN xO xP xQ x5 x6 x7 x8 x9 xk xl xm xn xo xp xq xr xt xu xv xw y0 y1 y2 y3 y4 y5 y6 y7 y8 y9 yA yB yC yD yE yF yG yH yI yJ yK yL yM xA : Value) (w0 : World) (L : List HP) (B : List RowS) (n0 : Nat)  (a : Act) (wr : World) : Prop := ∃ (A : Option Addr) (m cap : Nat), (m ≤ n0 + 6 ∧ Heap w0 wr (HP.slw (.slice A m cap) 7 m (rowsC (B ++ uptoL (sB) (3))) :: L)) ∧ FRY2 c0 c2 c3 c4 c6 c7 c8 c9 x0 x1 x2 x3 x4 xB xC xD xE xF xG xH xI xJ xK xL xM xN xO xP xQ x5 x6 x7 x8 x9 xk xl xm xn xo xp xq xr xt xu xv xw y0 y1 y2 y3 y4 y5 y6 y7 y8 y9 yA yB yC yD yE yF yG yH yI yJ yK yL yM xA A m cap 3  a
def WmuY2 (K : Nat) (a : Act) (_ : World) : Nat := K - (intOf (a.tmps.getD 5 undef)).toNat
variable {w0 : World} {L : List HP} {B : List RowS} {n0 : Nat} 
set_option maxRecDepth 1000000 in
set_option maxHeartbeats 8000000 in
theorem oneY2 (hn : n0 ≤ 200) {A : Option Addr} {m cap k : Nat} {ck : Int} (hck : ck = (k : Int)) {wr : World} (hm : m ≤ n0 + 2 * k) (hJ : Heap w0 wr (HP.slw (.slice A m cap) 7 m (rowsC (B ++ uptoL (sB) (k))) :: L)) (hlt : k < 3) (Q0 : Exit → Act → World → Prop) (c0 c2 c3 c4 c6 c7 c8 c9 x0 x1 x2 x3 x4 xB xC xD xE xF xG xH xI xJ xK xL xM xN xO xP xQ x5 x6 x7 x8 x9 xk xl xm xn xo xp xq xr xt xu xv xw y0 y1 y2 y3 y4 y5 y6 y7 y8 y9 yA yB yC yD yE yF yG yH yI yJ yK yL yM xA yw z0 z1 z2 z3 z4 z5 z6 z7 z8 z9 zA zB zC zD zE zF zG zH : Value) :
    Code.wp Try.prog bodyY2 (Exit.then (fun a' w'' => WIY2 c0 c2 c3 c4 c6 c7 c8 c9 x0 x1 x2 x3 x4 xB xC xD xE xF xG xH xI xJ xK xL xM xN xO xP xQ x5 x6 x7 x8 x9 xk xl xm xn xo xp xq xr xt xu xv xw y0 y1 y2 y3 y4 y5 y6 y7 y8 y9 yA yB yC yD yE yF yG yH yI yJ yK yL yM xA w0 L B n0  a' w'' ∧ WmuY2 3 a' w'' < 3 - ck.toNat) Q0) ⟨#[c0, .slice A m cap, c2, c3, c4, .int .i64 ck, c6, c7, c8, c9, x0, x1, x2, x3, x4, xB, xC, xD, xE, xF, xG, xH, xI, xJ, xK, xL, xM, xN, xO, xP, xQ, x5, x6, x7, x8, yw, z0, z1, z2, z3, z4, z5, z6, z7, z8, z9, zA, zB, zC, zD, zE, zF, zG, zH, x9, xk, xl, xm, xn, xo, xp, xq, xr, xt, xu, xv, xw, y0, y1, y2, y3, y4, y5, y6, y7, y8, y9, yA, yB, yC, yD, yE, yF, yG, yH, yI, yJ, yK, yL, yM, xA], []⟩ wr := by
  conv => arg 2; whnf
  have HJ := hide hJ
  clear hJ
  obtain ⟨i1, hi1, hz0, hz1, hz2⟩ := info_parts info49
  have hc : (k = 0 ∧ ck = 0) ∨ (k = 1 ∧ ck = 1) ∨ (k = 2 ∧ ck = 2) := by omega
  clear hlt hck
  rcases hc with ⟨rfl, rfl⟩ | ⟨rfl, rfl⟩ | ⟨rfl, rfl⟩
  · go_wp2_with fail
    refine (op3_w 115 1 4211 35 ⟨#[100, 49, 99]⟩ _ (by decide) (by decide) (by decide) (by decide) rfl).mono ?_
    rintro r w1 ⟨rfl, g1⟩
    have H1 := hide ((unhide HJ).grown g1)
    clear g1 HJ
    go_wp2_with fail
    refine (op3_w 115 5 20595 35 ⟨#[100, 99, 122, 61]⟩ _ (by decide) (by decide) (by decide) (by decide) rfl).mono ?_
    rintro r w2 ⟨rfl, g1⟩
    have H2 := hide ((unhide H1).grown g1)
    clear g1 H1
    go_wp2_with (at_builtin; refine wpList_append_sl (n := m) (m := 2) rfl _ _ 46 rfl 49 i1 _ 7 48 Try.underlying46 hi1 hz0 hz1 hz2 rfl rfl rfl ((unhide H2).alloc _).slw (sl_blk (n := 2) (sz := 7) (xs := rowsC (sB 0)) (heap_new' w2 _) rfl) (rowsC_cells _) (by omega) (by omega) ?_; intro v' w7 hsl hgr hblk hsp; obtain ⟨A', cap', rfl, _⟩ := hsl.parts; have hA := hide (((unhide H2).alloc _).appendw hsl hgr hblk); clear hsl hgr hblk hsp; refine unhide ?_)
    refine hide ?_
    go_wp2
    refine ⟨⟨0 + 1, 1, A', m + 2, cap', ⟨by omega, by omega, by omega, by rw [uptoL_succ, ← List.append_assoc, rowsC_app]; exact unhide hA⟩, ?_⟩, by simp [WmuY2, intOf]⟩
    unfold FRY2
    refine ⟨_, _, _, _, _, _, _, _, _, _, _, _, _, _, _, _, _, _, _, rfl⟩
  · go_wp2_with fail
    refine (op3_w 115 2 8307 36 ⟨#[100, 49, 99]⟩ _ (by decide) (by decide) (by decide) (by decide) rfl).mono ?_
    rintro r w1 ⟨rfl, g1⟩
    have H1 := hide ((unhide HJ).grown g1)
    clear g1 HJ
    go_wp2_with fail
    refine (op3_w 115 6 24691 36 ⟨#[100, 99, 122, 61]⟩ _ (by decide) (by decide) (by decide) (by decide) rfl).mono ?_
    rintro r w2 ⟨rfl, g1⟩
    have H2 := hide ((unhide H1).grown g1)
    clear g1 H1
    go_wp2_with (at_builtin; refine wpList_append_sl (n := m) (m := 2) rfl _ _ 46 rfl 49 i1 _ 7 48 Try.underlying46 hi1 hz0 hz1 hz2 rfl rfl rfl ((unhide H2).alloc _).slw (sl_blk (n := 2) (sz := 7) (xs := rowsC (sB 1)) (heap_new' w2 _) rfl) (rowsC_cells _) (by omega) (by omega) ?_; intro v' w7 hsl hgr hblk hsp; obtain ⟨A', cap', rfl, _⟩ := hsl.parts; have hA := hide (((unhide H2).alloc _).appendw hsl hgr hblk); clear hsl hgr hblk hsp; refine unhide ?_)
    refine hide ?_
    go_wp2
    refine ⟨⟨1 + 1, 2, A', m + 2, cap', ⟨by omega, by omega, by omega, by rw [uptoL_succ, ← List.append_assoc, rowsC_app]; exact unhide hA⟩, ?_⟩, by simp [WmuY2, intOf]⟩
    unfold FRY2
    refine ⟨_, _, _, _, _, _, _, _, _, _, _, _, _, _, _, _, _, _, _, rfl⟩
  · go_wp2_with fail
    refine (op3_w 115 3 12403 37 ⟨#[100, 49, 99]⟩ _ (by decide) (by decide) (by decide) (by decide) rfl).mono ?_
    rintro r w1 ⟨rfl, g1⟩
    have H1 := hide ((unhide HJ).grown g1)
    clear g1 HJ
    go_wp2_with fail
    refine (op3_w 115 7 28787 37 ⟨#[100, 99, 122, 61]⟩ _ (by decide) (by decide) (by decide) (by decide) rfl).mono ?_
    rintro r w2 ⟨rfl, g1⟩
    have H2 := hide ((unhide H1).grown g1)
    clear g1 H1
    go_wp2_with (at_builtin; refine wpList_append_sl (n := m) (m := 2) rfl _ _ 46 rfl 49 i1 _ 7 48 Try.underlying46 hi1 hz0 hz1 hz2 rfl rfl rfl ((unhide H2).alloc _).slw (sl_blk (n := 2) (sz := 7) (xs := rowsC (sB 2)) (heap_new' w2 _) rfl) (rowsC_cells _) (by omega) (by omega) ?_; intro v' w7 hsl hgr hblk hsp; obtain ⟨A', cap', rfl, _⟩ := hsl.parts; have hA := hide (((unhide H2).alloc _).appendw hsl hgr hblk); clear hsl hgr hblk hsp; refine unhide ?_)
    refine hide ?_
    go_wp2
    refine ⟨⟨2 + 1, 3, A', m + 2, cap', ⟨by omega, by omega, by omega, by rw [uptoL_succ, ← List.append_assoc, rowsC_app]; exact unhide hA⟩, ?_⟩, by simp [WmuY2, intOf]⟩
    unfold FRY2
    refine ⟨_, _, _, _, _, _, _, _, _, _, _, _, _, _, _, _, _, _, _, rfl⟩
set_option maxRecDepth 1000000 in
set_option maxHeartbeats 8000000 in
theorem roundY2 (hn : n0 ≤ 200) (Q0 : Exit → Act → World → Prop) (c0 c2 c3 c4 c6 c7 c8 c9 x0 x1 x2 x3 x4 xB xC xD xE xF xG xH xI xJ xK xL xM xN xO xP xQ x5 x6 x7 x8 x9 xk xl xm xn xo xp xq xr xt xu xv xw y0 y1 y2 y3 y4 y5 y6 y7 y8 y9 yA yB yC yD yE yF yG yH yI yJ yK yL yM xA : Value) (hexit : ∀ a' w'', WXY2 c0 c2 c3 c4 c6 c7 c8 c9 x0 x1 x2 x3 x4 xB xC xD xE xF xG xH xI xJ xK xL xM xN xO xP xQ x5 x6 x7 x8 x9 xk xl xm xn xo xp xq xr xt xu xv xw y0 y1 y2 y3 y4 y5 y6 y7 y8 y9 yA yB yC yD yE yF yG yH yI yJ yK yL yM xA w0 L B n0  a' w'' → Q0 (.exit 2) a' w'') {a : Act} {wr : World} (hI : WIY2 c0 c2 c3 c4 c6 c7 c8 c9 x0 x1 x2 x3 x4 xB xC xD xE xF xG xH xI xJ xK xL xM xN xO xP xQ x5 x6 x7 x8 x9 xk xl xm xn xo xp xq xr xt xu xv xw y0 y1 y2 y3 y4 y5 y6 y7 y8 y9 yA yB yC yD yE yF yG yH yI yJ yK yL yM xA w0 L B n0  a wr) :
    Code.wp Try.prog bodyY2 (Exit.then (fun a' w'' => WIY2 c0 c2 c3 c4 c6 c7 c8 c9 x0 x1 x2 x3 x4 xB xC xD xE xF xG xH xI xJ xK xL xM xN xO xP xQ x5 x6 x7 x8 x9 xk xl xm xn xo xp xq xr xt xu xv xw y0 y1 y2 y3 y4 y5 y6 y7 y8 y9 yA yB yC yD yE yF yG yH yI yJ yK yL yM xA w0 L B n0  a' w'' ∧ WmuY2 3 a' w'' < WmuY2 3 a wr) Q0) a wr := by
  obtain ⟨k, ck, A, m, cap, ⟨hck, hk, hm, hJ⟩, hF⟩ := hI
  unfold FRY2 at hF
  obtain ⟨yw, hF⟩ := hF
  obtain ⟨z0, hF⟩ := hF
  obtain ⟨z1, hF⟩ := hF
  obtain ⟨z2, hF⟩ := hF
  obtain ⟨z3, hF⟩ := hF
  obtain ⟨z4, hF⟩ := hF
  obtain ⟨z5, hF⟩ := hF
  obtain ⟨z6, hF⟩ := hF
  obtain ⟨z7, hF⟩ := hF
  obtain ⟨z8, hF⟩ := hF
  obtain ⟨z9, hF⟩ := hF
  obtain ⟨zA, hF⟩ := hF
  obtain ⟨zB, hF⟩ := hF
  obtain ⟨zC, hF⟩ := hF
  obtain ⟨zD, hF⟩ := hF
  obtain ⟨zE, hF⟩ := hF
  obtain ⟨zF, hF⟩ := hF
  obtain ⟨zG, hF⟩ := hF
  obtain ⟨zH, hF⟩ := hF
  subst hF
  by_cases hlt : k < 3
  · exact oneY2 hn hck hm hJ hlt Q0 _ _ _ _ _ _ _ _ _ _ _ _ _ _ _ _ _ _ _ _ _ _ _ _ _ _ _ _ _ _ _ _ _ _ _ _ _ _ _ _ _ _ _ _ _ _ _ _ _ _ _ _ _ _ _ _ _ _ _ _ _ _ _ _ _ _ _ _ _ _ _ _ _ _ _ _ _ _ _ _ _ _ _ _ _ _ _ _ _
  · obtain rfl : k = 3 := by omega
    obtain rfl : ck = 3 := by omega
    have HJ := hide hJ
    clear hJ hck
    conv => arg 2; whnf
    go_wp2
    refine ⟨A, m, cap, ⟨by omega, unhide HJ⟩, ?_⟩
    unfold FRY2
    refine ⟨_, _, _, _, _, _, _, _, _, _, _, _, _, _, _, _, _, _, _, rfl⟩
set_option maxRecDepth 1000000 in
theorem loopY2 (hn : n0 ≤ 200) (Q0 : Exit → Act → World → Prop) (c0 c2 c3 c4 c6 c7 c8 c9 x0 x1 x2 x3 x4 xB xC xD xE xF xG xH xI xJ xK xL xM xN xO xP xQ x5 x6 x7 x8 x9 xk xl xm xn xo xp xq xr xt xu xv xw y0 y1 y2 y3 y4 y5 y6 y7 y8 y9 yA yB yC yD yE yF yG yH yI yJ yK yL yM xA : Value) {A : Option Addr} {m cap : Nat} {wr : World} (hm : m ≤ n0) (hJ : Heap w0 wr (HP.slw (.slice A m cap) 7 m (rowsC B) :: L)) (yw z0 z1 z2 z3 z4 z5 z6 z7 z8 z9 zA zB zC zD zE zF zG zH : Value) (hexit : ∀ a' w'', WXY2 c0 c2 c3 c4 c6 c7 c8 c9 x0 x1 x2 x3 x4 xB xC xD xE xF xG xH xI xJ xK xL xM xN xO xP xQ x5 x6 x7 x8 x9 xk xl xm xn xo xp xq xr xt xu xv xw y0 y1 y2 y3 y4 y5 y6 y7 y8 y9 yA yB yC yD yE yF yG yH yI yJ yK yL yM xA w0 L B n0  a' w'' → Q0 (.exit 2) a' w'') :
    Code.wp Try.prog (Code.loop bodyY2) Q0 ⟨#[c0, .slice A m cap, c2, c3, c4, .int .i64 0, c6, c7, c8, c9, x0, x1, x2, x3, x4, xB, xC, xD, xE, xF, xG, xH, xI, xJ, xK, xL, xM, xN, xO, xP, xQ, x5, x6, x7, x8, yw, z0, z1, z2, z3, z4, z5, z6, z7, z8, z9, zA, zB, zC, zD, zE, zF, zG, zH, x9, xk, xl, xm, xn, xo, xp, xq, xr, xt, xu, xv, xw, y0, y1, y2, y3, y4, y5, y6, y7, y8, y9, yA, yB, yC, yD, yE, yF, yG, yH, yI, yJ, yK, yL, yM, xA], []⟩ wr := by
  refine wp_loop (WIY2 c0 c2 c3 c4 c6 c7 c8 c9 x0 x1 x2 x3 x4 xB xC xD xE xF xG xH xI xJ xK xL xM xN xO xP xQ x5 x6 x7 x8 x9 xk xl xm xn xo xp xq xr xt xu xv xw y0 y1 y2 y3 y4 y5 y6 y7 y8 y9 yA yB yC yD yE yF yG yH yI yJ yK yL yM xA w0 L B n0 ) (WmuY2 3) ⟨0, 0, A, m, cap, ⟨by omega, by omega, by omega, by rw [show uptoL (sB) 0 = [] from rfl, List.append_nil]; exact hJ⟩, ?_⟩ (fun a w'' hI => roundY2 hn Q0 c0 c2 c3 c4 c6 c7 c8 c9 x0 x1 x2 x3 x4 xB xC xD xE xF xG xH xI xJ xK xL xM xN xO xP xQ x5 x6 x7 x8 x9 xk xl xm xn xo xp xq xr xt xu xv xw y0 y1 y2 y3 y4 y5 y6 y7 y8 y9 yA yB yC yD yE yF yG yH yI yJ yK yL yM xA hexit hI)
  unfold FRY2
  exact ⟨yw, z0, z1, z2, z3, z4, z5, z6, z7, z8, z9, zA, zB, zC, zD, zE, zF, zG, zH, rfl⟩
end Go.Proofs.Ytopbdiekfhikmaa
namespace Go.Proofs.Ytopbdiekfhikmaa
open Go.RowKit
def sD (d k : Nat) : List RowS := if d = 0 then ([[⟨4160778367, 402661423, 39, ⟨#[100, 49, 50]⟩, 4, false, false⟩], [⟨4160778367, 134225967, 40, ⟨#[100, 49, 50]⟩, 4, false, false⟩], [⟨4160778367, 8239, 41, ⟨#[100, 49, 50]⟩, 4, false, false⟩], [⟨4160778367, 536879151, 42, ⟨#[100, 49, 50]⟩, 4, false, false⟩], [⟨4160778367, 1610620975, 43, ⟨#[100, 49, 50]⟩, 4, false, false⟩], [⟨4160778367, 1073750063, 44, ⟨#[100, 49, 50]⟩, 4, false, false⟩], [⟨4160778367, 2147491887, 45, ⟨#[100, 49, 50]⟩, 4, false, false⟩], [⟨4160778367, 2684362799, 46, ⟨#[100, 49, 50]⟩, 4, false, false⟩], [⟨4160778367, 3221233711, 47, ⟨#[100, 49, 50]⟩, 4, false, false⟩], [⟨4160778367, 3758104623, 48, ⟨#[100, 49, 50]⟩, 4, false, false⟩]][k]?).getD [] else ([[⟨4160778367, 402665519, 39, ⟨#[100, 49, 50]⟩, 8, false, false⟩], [⟨4160778367, 134230063, 40, ⟨#[100, 49, 50]⟩, 8, false, false⟩], [⟨4160778367, 12335, 41, ⟨#[100, 49, 50]⟩, 8, false, false⟩], [⟨4160778367, 536883247, 42, ⟨#[100, 49, 50]⟩, 8, false, false⟩], [⟨4160778367, 1610625071, 43, ⟨#[100, 49, 50]⟩, 8, false, false⟩], [⟨4160778367, 1073754159, 44, ⟨#[100, 49, 50]⟩, 8, false, false⟩], [⟨4160778367, 2147495983, 45, ⟨#[100, 49, 50]⟩, 8, false, false⟩], [⟨4160778367, 2684366895, 46, ⟨#[100, 49, 50]⟩, 8, false, false⟩], [⟨4160778367, 3221237807, 47, ⟨#[100, 49, 50]⟩, 8, false, false⟩], [⟨4160778367, 3758108719, 48, ⟨#[100, 49, 50]⟩, 8, false, false⟩]][k]?).getD []
def f5s : List Value := [.int .u32 3, .int .u32 1, .int .u32 0, .int .u32 4, .int .u32 12, .int .u32 8, .int .u32 16, .int .u32 20, .int .u32 24, .int .u32 28]
def loopsOfY3 : Code → List Code
  | .loop c => [c]
  | .seq a b => loopsOfY3 a ++ loopsOfY3 b
  | .block _ c => loopsOfY3 c
  | .scope c => loopsOfY3 c
  | .cond _ a b => loopsOfY3 a ++ loopsOfY3 b
  | _ => []
noncomputable def bodyY3 : Code := ((Try.f42.body.map loopsOfY3).getD []).getD 2 .skip
noncomputable def bodyY4 : Code := (loopsOfY3 bodyY3).getD 0 .skip
set_option maxRecDepth 1000000 in
def FRY4 (c0 c2 c3 c4 c5 x0 x1 x2 x3 x4 xB xC xD xE xF xG xH xI xJ xK xL xM xN xO xP xQ x5 x6 x7 x8 xR xS xT xU xV xW xX xY xZ xa xb xc xd xe xf xg xh xi xj x9 xk xl xm xn xo xp xq xr xt xu xv xw y0 y1 y2 y3 y4 xA : Value) (A : Option Addr) (m cap : Nat) (ck : Int) (g6 _d : Nat) (sz ob : Int) (a : Act) : Prop := ∃ yN : Value, ∃ yO : Value, ∃ yP : Value, ∃ yQ : Value, ∃ yR : Value, ∃ yS : Value, ∃ yT : Value, ∃ yU : Value, ∃ yV : Value, ∃ yW : Value, ∃ yX : Value, ∃ yY : Value, ∃ yZ : Value, ∃ ya : Value, ∃ yb : Value, ∃ yc : Value, ∃ yd : Value, ∃ ye : Value, a = ⟨#[c0, .slice A m cap, c2, c3, c4, c5, .slice (some ⟨g6, 0, none⟩) 10 10, .int .i64 sz, .int .u32 ob, .int .i64 ck, x0, x1, x2, x3, x4, xB, xC, xD, xE, xF, xG, xH, xI, xJ, xK, xL, xM, xN, xO, xP, xQ, x5, x6, x7, x8, xR, xS, xT, xU, xV, xW, xX, xY, xZ, xa, xb, xc, xd, xe, xf, xg, xh, xi, xj, x9, xk, xl, xm, xn, xo, xp, xq, xr, xt, xu, xv, xw, y0, y1, y2, y3, y4, yN, yO, yP, yQ, yR, yS, yT, yU, yV, yW, yX, yY, yZ, ya, yb, yc, yd, ye, xA], []⟩
def WIY4 (c0 c2 c3 c4 c5 x0 x1 x2 x3 x4 xB xC xD xE xF xG xH xI xJ xK xL xM xN xO xP xQ x5 x6 x7 x8 xR xS xT xU xV xW xX xY xZ xa xb xc xd xe xf xg xh xi xj x9 xk xl xm xn xo xp xq xr xt xu xv xw y0 y1 y2 y3 y4 xA : Value) (w0 : World) (L : List HP) (B : List RowS) (n0 : Nat) (g6 d : Nat) (sz ob : Int) (a : Act) (wr : World) : Prop := ∃ (k : Nat) (ck : Int) (A : Option Addr) (m cap : Nat), (ck = (k : Int) ∧ k ≤ 10 ∧ m ≤ n0 + 1 * k ∧ Heap w0 wr (HP.slw (.slice A m cap) 7 m (rowsC (B ++ uptoL (sD d) (k))) :: HP.slw (.slice (some ⟨g6, 0, none⟩) 10 10) 1 10 f5s :: L)) ∧ FRY4 c0 c2 c3 c4 c5 x0 x1 x2 x3 x4 xB xC xD xE xF xG xH xI xJ xK xL xM xN xO xP xQ x5 x6 x7 x8 xR xS xT xU xV xW xX xY xZ xa xb xc xd xe xf xg xh xi xj x9 xk xl xm xn xo xp xq xr xt xu xv xw y0 y1 y2 y3 y4 xA A m cap ck g6 d sz ob a
def WXY4 (c0 c2 c3 c4 c5 x0 x1 x2 x3 x4 xB xC xD xE xF xG xH xI xJ xK xL xM xN xO xP xQ x5 x6 x7 x8 xR xS xT xU xV xW xX xY xZ xa xb xc xd xe xf xg xh xi xj x9 xk xl xm xn xo xp xq xr xt xu xv xw y0 y1 y2 y3 y4 xA : Value) (w0 : World) (L : List HP) (B : List RowS) (n0 : Nat) (g6 d : Nat) (sz ob : Int) (a : Act) (wr : World) : Prop := ∃ (A : Option Addr) (m cap : Nat), (m ≤ n0 + 10 ∧ Heap w0 wr (HP.slw (.slice A m cap) 7 m (rowsC (B ++ uptoL (sD d) (10))) :: HP.slw (.slice (some ⟨g6, 0, none⟩) 10 10) 1 10 f5s :: L)) ∧ FRY4 c0 c2 c3 c4 c5 x0 x1 x2 x3 x4 xB xC xD xE xF xG xH xI xJ xK xL xM xN xO xP xQ x5 x6 x7 x8 xR xS xT xU xV xW xX xY xZ xa xb xc xd xe xf xg xh xi xj x9 xk xl xm xn xo xp xq xr xt xu xv xw y0 y1 y2 y3 y4 xA A m cap 10 g6 d sz ob a
def WmuY4 (K : Nat) (a : Act) (_ : World) : Nat := K - (intOf (a.tmps.getD 9 undef)).toNat
variable {w0 : World} {L : List HP} {B : List RowS} {n0 : Nat} {g6 d : Nat} {sz ob : Int}
set_option maxRecDepth 1000000 in
set_option maxHeartbeats 8000000 in
theorem oneY4 (hn : n0 ≤ 200) (hs : (d = 0 ∧ sz = 4 ∧ ob = 8239) ∨ (d = 1 ∧ sz = 8 ∧ ob = 12335)) {A : Option Addr} {m cap k : Nat} {ck : Int} (hck : ck = (k : Int)) {wr : World} (hm : m ≤ n0 + 1 * k) (hJ : Heap w0 wr (HP.slw (.slice A m cap) 7 m (rowsC (B ++ uptoL (sD d) (k))) :: HP.slw (.slice (some ⟨g6, 0, none⟩) 10 10) 1 10 f5s :: L)) (hlt : k < 10) (Q0 : Exit → Act → World → Prop) (c0 c2 c3 c4 c5 x0 x1 x2 x3 x4 xB xC xD xE xF xG xH xI xJ xK xL xM xN xO xP xQ x5 x6 x7 x8 xR xS xT xU xV xW xX xY xZ xa xb xc xd xe xf xg xh xi xj x9 xk xl xm xn xo xp xq xr xt xu xv xw y0 y1 y2 y3 y4 xA yN yO yP yQ yR yS yT yU yV yW yX yY yZ ya yb yc yd ye : Value) :
    Code.wp Try.prog bodyY4 (Exit.then (fun a' w'' => WIY4 c0 c2 c3 c4 c5 x0 x1 x2 x3 x4 xB xC xD xE xF xG xH xI xJ xK xL xM xN xO xP xQ x5 x6 x7 x8 xR xS xT xU xV xW xX xY xZ xa xb xc xd xe xf xg xh xi xj x9 xk xl xm xn xo xp xq xr xt xu xv xw y0 y1 y2 y3 y4 xA w0 L B n0 g6 d sz ob a' w'' ∧ WmuY4 10 a' w'' < 10 - ck.toNat) Q0) ⟨#[c0, .slice A m cap, c2, c3, c4, c5, .slice (some ⟨g6, 0, none⟩) 10 10, .int .i64 sz, .int .u32 ob, .int .i64 ck, x0, x1, x2, x3, x4, xB, xC, xD, xE, xF, xG, xH, xI, xJ, xK, xL, xM, xN, xO, xP, xQ, x5, x6, x7, x8, xR, xS, xT, xU, xV, xW, xX, xY, xZ, xa, xb, xc, xd, xe, xf, xg, xh, xi, xj, x9, xk, xl, xm, xn, xo, xp, xq, xr, xt, xu, xv, xw, y0, y1, y2, y3, y4, yN, yO, yP, yQ, yR, yS, yT, yU, yV, yW, yX, yY, yZ, ya, yb, yc, yd, ye, xA], []⟩ wr := by
  conv => arg 2; whnf
  have HJ := hide hJ
  clear hJ
  obtain ⟨i1, hi1, hz0, hz1, hz2⟩ := info_parts info49
  obtain ⟨R0, hR0⟩ : ∃ R, (sD d) k = R := ⟨_, rfl⟩
  have HR0 := hide hR0
  clear hR0
  obtain ⟨v5, hv5⟩ : ∃ v, f5s[k]? = some v := ⟨_, List.getElem?_eq_getElem (by show k < 10; omega)⟩
  have HV5 := hide hv5
  clear hv5
  have hc : (k = 0 ∧ ck = 0) ∨ (k = 1 ∧ ck = 1) ∨ (k = 2 ∧ ck = 2) ∨ (k = 3 ∧ ck = 3) ∨ (k = 4 ∧ ck = 4) ∨ (k = 5 ∧ ck = 5) ∨ (k = 6 ∧ ck = 6) ∨ (k = 7 ∧ ck = 7) ∨ (k = 8 ∧ ck = 8) ∨ (k = 9 ∧ ck = 9) := by omega
  clear hlt hck
  rcases hs with ⟨rfl, rfl, rfl⟩ | ⟨rfl, rfl, rfl⟩ <;> rcases hc with ⟨hkv, rfl⟩ | ⟨hkv, rfl⟩ | ⟨hkv, rfl⟩ | ⟨hkv, rfl⟩ | ⟨hkv, rfl⟩ | ⟨hkv, rfl⟩ | ⟨hkv, rfl⟩ | ⟨hkv, rfl⟩ | ⟨hkv, rfl⟩ | ⟨hkv, rfl⟩
  all_goals
    have HKV := hide hkv
    have hv5 := unhide HV5
    rw [unhide HKV] at hv5
    injection hv5 with hv5
    subst hv5
    have hv5 := unhide HV5
    rw [unhide HKV] at hv5
    have cE := slw_at (unhide HJ).tail hv5
    have hgl := (unhide HJ).tail.slw.blk_lt rfl
    clear hv5
    go_wp2_with (at_builtin; refine wpList_append_sl (n := m) (m := 1) rfl _ _ 46 rfl 49 i1 _ 7 48 Try.underlying46 hi1 hz0 hz1 hz2 rfl rfl rfl ((unhide HJ).alloc _).slw (sl_blk (n := 1) (sz := 7) (xs := rowsC R0) (by rw [← unhide HR0, unhide HKV]; exact heap_new' wr _) (by rw [← unhide HR0, unhide HKV]; rfl)) (rowsC_cells _) (by omega) (by omega) ?_; intro v' w7 hsl hgr hblk hsp; obtain ⟨A', cap', rfl, _⟩ := hsl.parts; have hA := hide (((unhide HJ).alloc _).appendw hsl hgr hblk); clear hsl hgr hblk hsp; refine unhide ?_)
    refine hide ?_
    go_wp2
    refine ⟨⟨k + 1, ((k + 1 : Nat) : Int), A', m + 1, cap', ⟨rfl, by have := unhide HKV; omega, by omega, by rw [uptoL_succ, ← List.append_assoc, rowsC_app, unhide HR0]; exact unhide hA⟩, ?_⟩, by simp [WmuY4, intOf]⟩
    unfold FRY4
    obtain rfl := unhide HKV
    refine ⟨_, _, _, _, _, _, _, _, _, _, _, _, _, _, _, _, _, _, rfl⟩
set_option maxRecDepth 1000000 in
set_option maxHeartbeats 8000000 in
theorem roundY4 (hn : n0 ≤ 200) (hs : (d = 0 ∧ sz = 4 ∧ ob = 8239) ∨ (d = 1 ∧ sz = 8 ∧ ob = 12335)) (Q0 : Exit → Act → World → Prop) (c0 c2 c3 c4 c5 x0 x1 x2 x3 x4 xB xC xD xE xF xG xH xI xJ xK xL xM xN xO xP xQ x5 x6 x7 x8 xR xS xT xU xV xW xX xY xZ xa xb xc xd xe xf xg xh xi xj x9 xk xl xm xn xo xp xq xr xt xu xv xw y0 y1 y2 y3 y4 xA : Value) (hexit : ∀ a' w'', WXY4 c0 c2 c3 c4 c5 x0 x1 x2 x3 x4 xB xC xD xE xF xG xH xI xJ xK xL xM xN xO xP xQ x5 x6 x7 x8 xR xS xT xU xV xW xX xY xZ xa xb xc xd xe xf xg xh xi xj x9 xk xl xm xn xo xp xq xr xt xu xv xw y0 y1 y2 y3 y4 xA w0 L B n0 g6 d sz ob a' w'' → Q0 (.exit 6) a' w'') {a : Act} {wr : World} (hI : WIY4 c0 c2 c3 c4 c5 x0 x1 x2 x3 x4 xB xC xD xE xF xG xH xI xJ xK xL xM xN xO xP xQ x5 x6 x7 x8 xR xS xT xU xV xW xX xY xZ xa xb xc xd xe xf xg xh xi xj x9 xk xl xm xn xo xp xq xr xt xu xv xw y0 y1 y2 y3 y4 xA w0 L B n0 g6 d sz ob a wr) :
    Code.wp Try.prog bodyY4 (Exit.then (fun a' w'' => WIY4 c0 c2 c3 c4 c5 x0 x1 x2 x3 x4 xB xC xD xE xF xG xH xI xJ xK xL xM xN xO xP xQ x5 x6 x7 x8 xR xS xT xU xV xW xX xY xZ xa xb xc xd xe xf xg xh xi xj x9 xk xl xm xn xo xp xq xr xt xu xv xw y0 y1 y2 y3 y4 xA w0 L B n0 g6 d sz ob a' w'' ∧ WmuY4 10 a' w'' < WmuY4 10 a wr) Q0) a wr := by
  obtain ⟨k, ck, A, m, cap, ⟨hck, hk, hm, hJ⟩, hF⟩ := hI
  unfold FRY4 at hF
  obtain ⟨yN, hF⟩ := hF
  obtain ⟨yO, hF⟩ := hF
  obtain ⟨yP, hF⟩ := hF
  obtain ⟨yQ, hF⟩ := hF
  obtain ⟨yR, hF⟩ := hF
  obtain ⟨yS, hF⟩ := hF
  obtain ⟨yT, hF⟩ := hF
  obtain ⟨yU, hF⟩ := hF
  obtain ⟨yV, hF⟩ := hF
  obtain ⟨yW, hF⟩ := hF
  obtain ⟨yX, hF⟩ := hF
  obtain ⟨yY, hF⟩ := hF
  obtain ⟨yZ, hF⟩ := hF
  obtain ⟨ya, hF⟩ := hF
  obtain ⟨yb, hF⟩ := hF
  obtain ⟨yc, hF⟩ := hF
  obtain ⟨yd, hF⟩ := hF
  obtain ⟨ye, hF⟩ := hF
  subst hF
  by_cases hlt : k < 10
  · exact oneY4 hn hs hck hm hJ hlt Q0 _ _ _ _ _ _ _ _ _ _ _ _ _ _ _ _ _ _ _ _ _ _ _ _ _ _ _ _ _ _ _ _ _ _ _ _ _ _ _ _ _ _ _ _ _ _ _ _ _ _ _ _ _ _ _ _ _ _ _ _ _ _ _ _ _ _ _ _ _ _ _ _ _ _ _ _ _ _ _ _ _ _ _ _ _ _
  · obtain rfl : k = 10 := by omega
    obtain rfl : ck = 10 := by omega
    have HJ := hide hJ
    clear hJ hck
    conv => arg 2; whnf
    go_wp2
    refine ⟨A, m, cap, ⟨by omega, unhide HJ⟩, ?_⟩
    unfold FRY4
    refine ⟨_, _, _, _, _, _, _, _, _, _, _, _, _, _, _, _, _, _, rfl⟩
set_option maxRecDepth 1000000 in
theorem loopY4 (hn : n0 ≤ 200) (hs : (d = 0 ∧ sz = 4 ∧ ob = 8239) ∨ (d = 1 ∧ sz = 8 ∧ ob = 12335)) (Q0 : Exit → Act → World → Prop) (c0 c2 c3 c4 c5 x0 x1 x2 x3 x4 xB xC xD xE xF xG xH xI xJ xK xL xM xN xO xP xQ x5 x6 x7 x8 xR xS xT xU xV xW xX xY xZ xa xb xc xd xe xf xg xh xi xj x9 xk xl xm xn xo xp xq xr xt xu xv xw y0 y1 y2 y3 y4 xA : Value) {A : Option Addr} {m cap : Nat} {wr : World} (hm : m ≤ n0) (hJ : Heap w0 wr (HP.slw (.slice A m cap) 7 m (rowsC B) :: HP.slw (.slice (some ⟨g6, 0, none⟩) 10 10) 1 10 f5s :: L)) (yN yO yP yQ yR yS yT yU yV yW yX yY yZ ya yb yc yd ye : Value) (hexit : ∀ a' w'', WXY4 c0 c2 c3 c4 c5 x0 x1 x2 x3 x4 xB xC xD xE xF xG xH xI xJ xK xL xM xN xO xP xQ x5 x6 x7 x8 xR xS xT xU xV xW xX xY xZ xa xb xc xd xe xf xg xh xi xj x9 xk xl xm xn xo xp xq xr xt xu xv xw y0 y1 y2 y3 y4 xA w0 L B n0 g6 d sz ob a' w'' → Q0 (.exit 6) a' w'') :
    Code.wp Try.prog (Code.loop bodyY4) Q0 ⟨#[c0, .slice A m cap, c2, c3, c4, c5, .slice (some ⟨g6, 0, none⟩) 10 10, .int .i64 sz, .int .u32 ob, .int .i64 0, x0, x1, x2, x3, x4, xB, xC, xD, xE, xF, xG, xH, xI, xJ, xK, xL, xM, xN, xO, xP, xQ, x5, x6, x7, x8, xR, xS, xT, xU, xV, xW, xX, xY, xZ, xa, xb, xc, xd, xe, xf, xg, xh, xi, xj, x9, xk, xl, xm, xn, xo, xp, xq, xr, xt, xu, xv, xw, y0, y1, y2, y3, y4, yN, yO, yP, yQ, yR, yS, yT, yU, yV, yW, yX, yY, yZ, ya, yb, yc, yd, ye, xA], []⟩ wr := by
  refine wp_loop (WIY4 c0 c2 c3 c4 c5 x0 x1 x2 x3 x4 xB xC xD xE xF xG xH xI xJ xK xL xM xN xO xP xQ x5 x6 x7 x8 xR xS xT xU xV xW xX xY xZ xa xb xc xd xe xf xg xh xi xj x9 xk xl xm xn xo xp xq xr xt xu xv xw y0 y1 y2 y3 y4 xA w0 L B n0 g6 d sz ob) (WmuY4 10) ⟨0, 0, A, m, cap, ⟨by omega, by omega, by omega, by rw [show uptoL (sD d) 0 = [] from rfl, List.append_nil]; exact hJ⟩, ?_⟩ (fun a w'' hI => roundY4 hn hs Q0 c0 c2 c3 c4 c5 x0 x1 x2 x3 x4 xB xC xD xE xF xG xH xI xJ xK xL xM xN xO xP xQ x5 x6 x7 x8 xR xS xT xU xV xW xX xY xZ xa xb xc xd xe xf xg xh xi xj x9 xk xl xm xn xo xp xq xr xt xu xv xw y0 y1 y2 y3 y4 xA hexit hI)
  unfold FRY4
  exact ⟨yN, yO, yP, yQ, yR, yS, yT, yU, yV, yW, yX, yY, yZ, ya, yb, yc, yd, ye, rfl⟩
end Go.Proofs.Ytopbdiekfhikmaa
namespace Go.Proofs.Ytopbdiekfhikmaa
open Go.RowKit
def sE (k : Nat) : List RowS := ([[⟨4193284223, 268443695, 38, ⟨#[100, 49]⟩, 4, false, false⟩], [⟨4193284223, 268447791, 38, ⟨#[100, 49]⟩, 8, false, false⟩]][k]?).getD [] ++ uptoL (sD k) 10

-- the body: bodyY3 of Y4
set_option maxRecDepth 1000000 in
def FRY3 (c0 c2 c3 c4 c5 x0 x1 x2 x3 x4 xB xC xD xE xF xG xH xI xJ xK xL xM xN xO xP xQ x5 x6 x7 x8 xR xS xT xU xV xW xX xY xZ xa xb xc xd xe xf xg xh xi xj x9 xA : Value) (A : Option Addr) (m cap : Nat) (ck : Int) (g6 : Nat) (a : Act) : Prop := ∃ u8 : Value, ∃ u9 : Value, ∃ zI : Value, ∃ zJ : Value, ∃ zK : Value, ∃ zL : Value, ∃ zM : Value, ∃ zN : Value, ∃ zO : Value, ∃ zP : Value, ∃ zQ : Value, ∃ zR : Value, ∃ zS : Value, ∃ zT : Value, ∃ zU : Value, ∃ zV : Value, ∃ zW : Value, ∃ zX : Value, ∃ zY : Value, ∃ yN : Value, ∃ yO : Value, ∃ yP : Value, ∃ yQ : Value, ∃ yR : Value, ∃ yS : Value, ∃ yT : Value, ∃ yU : Value, ∃ yV : Value, ∃ yW : Value, ∃ yX : Value, ∃ yY : Value, ∃ yZ : Value, ∃ ya : Value, ∃ yb : Value, ∃ yc : Value, ∃ yd : Value, ∃ ye : Value, a = ⟨#[c0, .slice A m cap, c2, c3, c4, c5, .slice (some ⟨g6, 0, none⟩) 10 10, .int .i64 ck, u8, u9, x0, x1, x2, x3, x4, xB, xC, xD, xE, xF, xG, xH, xI, xJ, xK, xL, xM, xN, xO, xP, xQ, x5, x6, x7, x8, xR, xS, xT, xU, xV, xW, xX, xY, xZ, xa, xb, xc, xd, xe, xf, xg, xh, xi, xj, x9, zI, zJ, zK, zL, zM, zN, zO, zP, zQ, zR, zS, zT, zU, zV, zW, zX, zY, yN, yO, yP, yQ, yR, yS, yT, yU, yV, yW, yX, yY, yZ, ya, yb, yc, yd, ye, xA], []⟩
def WIY3 (c0 c2 c3 c4 c5 x0 x1 x2 x3 x4 xB xC xD xE xF xG xH xI xJ xK xL xM xN xO xP xQ x5 x6 x7 x8 xR xS xT xU xV xW xX xY xZ xa xb xc xd xe xf xg xh xi xj x9 xA : Value) (w0 : World) (L : List HP) (B : List RowS) (n0 : Nat) (g6 : Nat) (a : Act) (wr : World) : Prop := ∃ (k : Nat) (ck : Int) (A : Option Addr) (m cap : Nat), (ck = 4 + 4 * (k : Int) ∧ k ≤ 2 ∧ m ≤ n0 + 11 * k ∧ Heap w0 wr (HP.slw (.slice A m cap) 7 m (rowsC (B ++ uptoL (sE) (k))) :: HP.slw (.slice (some ⟨g6, 0, none⟩) 10 10) 1 10 f5s :: L)) ∧ FRY3 c0 c2 c3 c4 c5 x0 x1 x2 x3 x4 xB xC xD xE xF xG xH xI xJ xK xL xM xN xO xP xQ x5 x6 x7 x8 xR xS xT xU xV xW xX xY xZ xa xb xc xd xe xf xg xh xi xj x9 xA A m cap ck g6 a
def WXY3 (c0 c2 c3 c4 c5 x0 x1 x2 x3 x4 xB xC xD xE xF xG xH xI xJ xK xL xM xN xO xP xQ x5 x6 x7 x8 xR xS xT xU xV xW xX xY xZ xa xb xc xd xe xf xg xh xi xj x9 xA : Value) (w0 : World) (L : List HP) (B : List RowS) (n0 : Nat) (g6 : Nat) (a : Act) (wr : World) : Prop := ∃ (A : Option Addr) (m cap : Nat), (m ≤ n0 + 22 ∧ Heap w0 wr (HP.slw (.slice A m cap) 7 m (rowsC (B ++ uptoL (sE) (2))) :: HP.slw (.slice (some ⟨g6, 0, none⟩) 10 10) 1 10 f5s :: L)) ∧ FRY3 c0 c2 c3 c4 c5 x0 x1 x2 x3 x4 xB xC xD xE xF xG xH xI xJ xK xL xM xN xO xP xQ x5 x6 x7 x8 xR xS xT xU xV xW xX xY xZ xa xb xc xd xe xf xg xh xi xj x9 xA A m cap 12 g6 a
def WmuY3 (K : Nat) (a : Act) (_ : World) : Nat := K - (intOf (a.tmps.getD 7 undef)).toNat
variable {w0 : World} {L : List HP} {B : List RowS} {n0 : Nat} {g6 : Nat}
set_option maxRecDepth 1000000 in
set_option maxHeartbeats 8000000 in
theorem oneY3 (hn : n0 ≤ 150) {A : Option Addr} {m cap k : Nat} {ck : Int} (hck : ck = 4 + 4 * (k : Int)) {wr : World} (hm : m ≤ n0 + 11 * k) (hJ : Heap w0 wr (HP.slw (.slice A m cap) 7 m (rowsC (B ++ uptoL (sE) (k))) :: HP.slw (.slice (some ⟨g6, 0, none⟩) 10 10) 1 10 f5s :: L)) (hlt : k < 2) (Q0 : Exit → Act → World → Prop) (c0 c2 c3 c4 c5 x0 x1 x2 x3 x4 xB xC xD xE xF xG xH xI xJ xK xL xM xN xO xP xQ x5 x6 x7 x8 xR xS xT xU xV xW xX xY xZ xa xb xc xd xe xf xg xh xi xj x9 xA u8 u9 zI zJ zK zL zM zN zO zP zQ zR zS zT zU zV zW zX zY yN yO yP yQ yR yS yT yU yV yW yX yY yZ ya yb yc yd ye : Value) :
    Code.wp Try.prog bodyY3 (Exit.then (fun a' w'' => WIY3 c0 c2 c3 c4 c5 x0 x1 x2 x3 x4 xB xC xD xE xF xG xH xI xJ xK xL xM xN xO xP xQ x5 x6 x7 x8 xR xS xT xU xV xW xX xY xZ xa xb xc xd xe xf xg xh xi xj x9 xA w0 L B n0 g6 a' w'' ∧ WmuY3 12 a' w'' < 12 - ck.toNat) Q0) ⟨#[c0, .slice A m cap, c2, c3, c4, c5, .slice (some ⟨g6, 0, none⟩) 10 10, .int .i64 ck, u8, u9, x0, x1, x2, x3, x4, xB, xC, xD, xE, xF, xG, xH, xI, xJ, xK, xL, xM, xN, xO, xP, xQ, x5, x6, x7, x8, xR, xS, xT, xU, xV, xW, xX, xY, xZ, xa, xb, xc, xd, xe, xf, xg, xh, xi, xj, x9, zI, zJ, zK, zL, zM, zN, zO, zP, zQ, zR, zS, zT, zU, zV, zW, zX, zY, yN, yO, yP, yQ, yR, yS, yT, yU, yV, yW, yX, yY, yZ, ya, yb, yc, yd, ye, xA], []⟩ wr := by
  conv => arg 2; whnf
  have HJ := hide hJ
  clear hJ
  obtain ⟨i1, hi1, hz0, hz1, hz2⟩ := info_parts info49
  have hc : (k = 0 ∧ ck = 4) ∨ (k = 1 ∧ ck = 8) := by omega
  clear hlt hck
  rcases hc with ⟨rfl, rfl⟩ | ⟨rfl, rfl⟩
  · go_wp2_with (at_builtin; refine wpList_append_sl (n := m) (m := 1) rfl _ _ 46 rfl 49 i1 _ 7 48 Try.underlying46 hi1 hz0 hz1 hz2 rfl rfl rfl ((unhide HJ).alloc _).slw (sl_blk (n := 1) (sz := 7) (xs := rowsC ([⟨4193284223, 268443695, 38, ⟨#[100, 49]⟩, 4, false, false⟩])) (heap_new' wr _) rfl) (rowsC_cells _) (by omega) (by omega) ?_; intro v' w7 hsl hgr hblk hsp; obtain ⟨A', cap', rfl, _⟩ := hsl.parts; have hA := hide (((unhide HJ).alloc _).appendw hsl hgr hblk); clear hsl hgr hblk hsp; refine unhide ?_)
    refine hide ?_
    have HB1 := hide (show Heap w0 _ (HP.slw (.slice A' (m + 1) cap') 7 (m + 1) (rowsC (B ++ uptoL sE 0 ++ [⟨4193284223, 268443695, 38, ⟨#[100, 49]⟩, 4, false, false⟩])) :: HP.slw (.slice (some ⟨g6, 0, none⟩) 10 10) 1 10 f5s :: L) by rw [rowsC_app _ [⟨4193284223, 268443695, 38, ⟨#[100, 49]⟩, 4, false, false⟩]]; exact unhide hA)
    clear hA HJ
    go_wp2
    refine loopY4 (n0 := m + 1) (d := 0) (sz := 4) (ob := 8239) (by omega) (by decide) _ _ _ _ _ _ _ _ _ _ _ _ _ _ _ _ _ _ _ _ _ _ _ _ _ _ _ _ _ _ _ _ _ _ _ _ _ _ _ _ _ _ _ _ _ _ _ _ _ _ _ _ _ _ _ _ _ _ _ _ _ _ _ _ _ _ _ _ _ (Nat.le_refl _) (unhide HB1) _ _ _ _ _ _ _ _ _ _ _ _ _ _ _ _ _ _ ?_
    clear HB1
    intro a' w'' hX
    obtain ⟨A9, m9, cap9, ⟨hm9, hJ9⟩, hF⟩ := hX
    unfold FRY4 at hF
    obtain ⟨yN, hF⟩ := hF
    obtain ⟨yO, hF⟩ := hF
    obtain ⟨yP, hF⟩ := hF
    obtain ⟨yQ, hF⟩ := hF
    obtain ⟨yR, hF⟩ := hF
    obtain ⟨yS, hF⟩ := hF
    obtain ⟨yT, hF⟩ := hF
    obtain ⟨yU, hF⟩ := hF
    obtain ⟨yV, hF⟩ := hF
    obtain ⟨yW, hF⟩ := hF
    obtain ⟨yX, hF⟩ := hF
    obtain ⟨yY, hF⟩ := hF
    obtain ⟨yZ, hF⟩ := hF
    obtain ⟨ya, hF⟩ := hF
    obtain ⟨yb, hF⟩ := hF
    obtain ⟨yc, hF⟩ := hF
    obtain ⟨yd, hF⟩ := hF
    obtain ⟨ye, hF⟩ := hF
    subst hF
    have H9 := hide (show Heap w0 w'' (HP.slw (.slice A9 m9 cap9) 7 m9 (rowsC (B ++ uptoL sE 0) ++ rowsC [⟨4193284223, 268443695, 38, ⟨#[100, 49]⟩, 4, false, false⟩] ++ rowsC (uptoL (sD 0) 10)) :: HP.slw (.slice (some ⟨g6, 0, none⟩) 10 10) 1 10 f5s :: L) by rw [← rowsC_app, ← rowsC_app]; exact hJ9)
    clear hJ9
    go_wp2
    refine ⟨⟨0 + 1, 8, A9, m9, cap9, ⟨by omega, by omega, by omega, by rw [uptoL_succ, ← List.append_assoc, rowsC_app, show sE 0 = [⟨4193284223, 268443695, 38, ⟨#[100, 49]⟩, 4, false, false⟩] ++ uptoL (sD 0) 10 from rfl, rowsC_app [⟨4193284223, 268443695, 38, ⟨#[100, 49]⟩, 4, false, false⟩], ← List.append_assoc]; exact unhide H9⟩, ?_⟩, by simp [WmuY3, intOf]⟩
    unfold FRY3
    refine ⟨_, _, _, _, _, _, _, _, _, _, _, _, _, _, _, _, _, _, _, _, _, _, _, _, _, _, _, _, _, _, _, _, _, _, _, _, _, rfl⟩
  · go_wp2_with (at_builtin; refine wpList_append_sl (n := m) (m := 1) rfl _ _ 46 rfl 49 i1 _ 7 48 Try.underlying46 hi1 hz0 hz1 hz2 rfl rfl rfl ((unhide HJ).alloc _).slw (sl_blk (n := 1) (sz := 7) (xs := rowsC ([⟨4193284223, 268447791, 38, ⟨#[100, 49]⟩, 8, false, false⟩])) (heap_new' wr _) rfl) (rowsC_cells _) (by omega) (by omega) ?_; intro v' w7 hsl hgr hblk hsp; obtain ⟨A', cap', rfl, _⟩ := hsl.parts; have hA := hide (((unhide HJ).alloc _).appendw hsl hgr hblk); clear hsl hgr hblk hsp; refine unhide ?_)
    refine hide ?_
    have HB1 := hide (show Heap w0 _ (HP.slw (.slice A' (m + 1) cap') 7 (m + 1) (rowsC (B ++ uptoL sE 1 ++ [⟨4193284223, 268447791, 38, ⟨#[100, 49]⟩, 8, false, false⟩])) :: HP.slw (.slice (some ⟨g6, 0, none⟩) 10 10) 1 10 f5s :: L) by rw [rowsC_app _ [⟨4193284223, 268447791, 38, ⟨#[100, 49]⟩, 8, false, false⟩]]; exact unhide hA)
    clear hA HJ
    go_wp2
    refine loopY4 (n0 := m + 1) (d := 1) (sz := 8) (ob := 12335) (by omega) (by decide) _ _ _ _ _ _ _ _ _ _ _ _ _ _ _ _ _ _ _ _ _ _ _ _ _ _ _ _ _ _ _ _ _ _ _ _ _ _ _ _ _ _ _ _ _ _ _ _ _ _ _ _ _ _ _ _ _ _ _ _ _ _ _ _ _ _ _ _ _ (Nat.le_refl _) (unhide HB1) _ _ _ _ _ _ _ _ _ _ _ _ _ _ _ _ _ _ ?_
    clear HB1
    intro a' w'' hX
    obtain ⟨A9, m9, cap9, ⟨hm9, hJ9⟩, hF⟩ := hX
    unfold FRY4 at hF
    obtain ⟨yN, hF⟩ := hF
    obtain ⟨yO, hF⟩ := hF
    obtain ⟨yP, hF⟩ := hF
    obtain ⟨yQ, hF⟩ := hF
    obtain ⟨yR, hF⟩ := hF
    obtain ⟨yS, hF⟩ := hF
    obtain ⟨yT, hF⟩ := hF
    obtain ⟨yU, hF⟩ := hF
    obtain ⟨yV, hF⟩ := hF
    obtain ⟨yW, hF⟩ := hF
    obtain ⟨yX, hF⟩ := hF
    obtain ⟨yY, hF⟩ := hF
    obtain ⟨yZ, hF⟩ := hF
    obtain ⟨ya, hF⟩ := hF
    obtain ⟨yb, hF⟩ := hF
    obtain ⟨yc, hF⟩ := hF
    obtain ⟨yd, hF⟩ := hF
    obtain ⟨ye, hF⟩ := hF
    subst hF
    have H9 := hide (show Heap w0 w'' (HP.slw (.slice A9 m9 cap9) 7 m9 (rowsC (B ++ uptoL sE 1) ++ rowsC [⟨4193284223, 268447791, 38, ⟨#[100, 49]⟩, 8, false, false⟩] ++ rowsC (uptoL (sD 1) 10)) :: HP.slw (.slice (some ⟨g6, 0, none⟩) 10 10) 1 10 f5s :: L) by rw [← rowsC_app, ← rowsC_app]; exact hJ9)
    clear hJ9
    go_wp2
    refine ⟨⟨1 + 1, 12, A9, m9, cap9, ⟨by omega, by omega, by omega, by rw [uptoL_succ, ← List.append_assoc, rowsC_app, show sE 1 = [⟨4193284223, 268447791, 38, ⟨#[100, 49]⟩, 8, false, false⟩] ++ uptoL (sD 1) 10 from rfl, rowsC_app [⟨4193284223, 268447791, 38, ⟨#[100, 49]⟩, 8, false, false⟩], ← List.append_assoc]; exact unhide H9⟩, ?_⟩, by simp [WmuY3, intOf]⟩
    unfold FRY3
    refine ⟨_, _, _, _, _, _, _, _, _, _, _, _, _, _, _, _, _, _, _, _, _, _, _, _, _, _, _, _, _, _, _, _, _, _, _, _, _, rfl⟩
set_option maxRecDepth 1000000 in
set_option maxHeartbeats 8000000 in
theorem roundY3 (hn : n0 ≤ 150) (Q0 : Exit → Act → World → Prop) (c0 c2 c3 c4 c5 x0 x1 x2 x3 x4 xB xC xD xE xF xG xH xI xJ xK xL xM xN xO xP xQ x5 x6 x7 x8 xR xS xT xU xV xW xX xY xZ xa xb xc xd xe xf xg xh xi xj x9 xA : Value) (hexit : ∀ a' w'', WXY3 c0 c2 c3 c4 c5 x0 x1 x2 x3 x4 xB xC xD xE xF xG xH xI xJ xK xL xM xN xO xP xQ x5 x6 x7 x8 xR xS xT xU xV xW xX xY xZ xa xb xc xd xe xf xg xh xi xj x9 xA w0 L B n0 g6 a' w'' → Q0 (.exit 4) a' w'') {a : Act} {wr : World} (hI : WIY3 c0 c2 c3 c4 c5 x0 x1 x2 x3 x4 xB xC xD xE xF xG xH xI xJ xK xL xM xN xO xP xQ x5 x6 x7 x8 xR xS xT xU xV xW xX xY xZ xa xb xc xd xe xf xg xh xi xj x9 xA w0 L B n0 g6 a wr) :
    Code.wp Try.prog bodyY3 (Exit.then (fun a' w'' => WIY3 c0 c2 c3 c4 c5 x0 x1 x2 x3 x4 xB xC xD xE xF xG xH xI xJ xK xL xM xN xO xP xQ x5 x6 x7 x8 xR xS xT xU xV xW xX xY xZ xa xb xc xd xe xf xg xh xi xj x9 xA w0 L B n0 g6 a' w'' ∧ WmuY3 12 a' w'' < WmuY3 12 a wr) Q0) a wr := by
  obtain ⟨k, ck, A, m, cap, ⟨hck, hk, hm, hJ⟩, hF⟩ := hI
  unfold FRY3 at hF
  obtain ⟨u8, hF⟩ := hF
  obtain ⟨u9, hF⟩ := hF
  obtain ⟨zI, hF⟩ := hF
  obtain ⟨zJ, hF⟩ := hF
  obtain ⟨zK, hF⟩ := hF
  obtain ⟨zL, hF⟩ := hF
  obtain ⟨zM, hF⟩ := hF
  obtain ⟨zN, hF⟩ := hF
  obtain ⟨zO, hF⟩ := hF
  obtain ⟨zP, hF⟩ := hF
  obtain ⟨zQ, hF⟩ := hF
  obtain ⟨zR, hF⟩ := hF
  obtain ⟨zS, hF⟩ := hF
  obtain ⟨zT, hF⟩ := hF
  obtain ⟨zU, hF⟩ := hF
  obtain ⟨zV, hF⟩ := hF
  obtain ⟨zW, hF⟩ := hF
  obtain ⟨zX, hF⟩ := hF
  obtain ⟨zY, hF⟩ := hF
  obtain ⟨yN, hF⟩ := hF
  obtain ⟨yO, hF⟩ := hF
  obtain ⟨yP, hF⟩ := hF
  obtain ⟨yQ, hF⟩ := hF
  obtain ⟨yR, hF⟩ := hF
  obtain ⟨yS, hF⟩ := hF
  obtain ⟨yT, hF⟩ := hF
  obtain ⟨yU, hF⟩ := hF
  obtain ⟨yV, hF⟩ := hF
  obtain ⟨yW, hF⟩ := hF
  obtain ⟨yX, hF⟩ := hF
  obtain ⟨yY, hF⟩ := hF
  obtain ⟨yZ, hF⟩ := hF
  obtain ⟨ya, hF⟩ := hF
  obtain ⟨yb, hF⟩ := hF
  obtain ⟨yc, hF⟩ := hF
  obtain ⟨yd, hF⟩ := hF
  obtain ⟨ye, hF⟩ := hF
  subst hF
  by_cases hlt : k < 2
  · exact oneY3 hn hck hm hJ hlt Q0 _ _ _ _ _ _ _ _ _ _ _ _ _ _ _ _ _ _ _ _ _ _ _ _ _ _ _ _ _ _ _ _ _ _ _ _ _ _ _ _ _ _ _ _ _ _ _ _ _ _ _ _ _ _ _ _ _ _ _ _ _ _ _ _ _ _ _ _ _ _ _ _ _ _ _ _ _ _ _ _ _ _ _ _ _ _ _ _
  · obtain rfl : k = 2 := by omega
    obtain rfl : ck = 12 := by omega
    have HJ := hide hJ
    clear hJ hck
    conv => arg 2; whnf
    go_wp2
    refine ⟨A, m, cap, ⟨by omega, unhide HJ⟩, ?_⟩
    unfold FRY3
    refine ⟨_, _, _, _, _, _, _, _, _, _, _, _, _, _, _, _, _, _, _, _, _, _, _, _, _, _, _, _, _, _, _, _, _, _, _, _, _, rfl⟩
set_option maxRecDepth 1000000 in
theorem loopY3 (hn : n0 ≤ 150) (Q0 : Exit → Act → World → Prop) (c0 c2 c3 c4 c5 x0 x1 x2 x3 x4 xB xC xD xE xF xG xH xI xJ xK xL xM xN xO xP xQ x5 x6 x7 x8 xR xS xT xU xV xW xX xY xZ xa xb xc xd xe xf xg xh xi xj x9 xA : Value) {A : Option Addr} {m cap : Nat} {wr : World} (hm : m ≤ n0) (hJ : Heap w0 wr (HP.slw (.slice A m cap) 7 m (rowsC B) :: HP.slw (.slice (some ⟨g6, 0, none⟩) 10 10) 1 10 f5s :: L)) (u8 u9 zI zJ zK zL zM zN zO zP zQ zR zS zT zU zV zW zX zY yN yO yP yQ yR yS yT yU yV yW yX yY yZ ya yb yc yd ye : Value) (hexit : ∀ a' w'', WXY3 c0 c2 c3 c4 c5 x0 x1 x2 x3 x4 xB xC xD xE xF xG xH xI xJ xK xL xM xN xO xP xQ x5 x6 x7 x8 xR xS xT xU xV xW xX xY xZ xa xb xc xd xe xf xg xh xi xj x9 xA w0 L B n0 g6 a' w'' → Q0 (.exit 4) a' w'') :
    Code.wp Try.prog (Code.loop bodyY3) Q0 ⟨#[c0, .slice A m cap, c2, c3, c4, c5, .slice (some ⟨g6, 0, none⟩) 10 10, .int .i64 4, u8, u9, x0, x1, x2, x3, x4, xB, xC, xD, xE, xF, xG, xH, xI, xJ, xK, xL, xM, xN, xO, xP, xQ, x5, x6, x7, x8, xR, xS, xT, xU, xV, xW, xX, xY, xZ, xa, xb, xc, xd, xe, xf, xg, xh, xi, xj, x9, zI, zJ, zK, zL, zM, zN, zO, zP, zQ, zR, zS, zT, zU, zV, zW, zX, zY, yN, yO, yP, yQ, yR, yS, yT, yU, yV, yW, yX, yY, yZ, ya, yb, yc, yd, ye, xA], []⟩ wr := by
  refine wp_loop (WIY3 c0 c2 c3 c4 c5 x0 x1 x2 x3 x4 xB xC xD xE xF xG xH xI xJ xK xL xM xN xO xP xQ x5 x6 x7 x8 xR xS xT xU xV xW xX xY xZ xa xb xc xd xe xf xg xh xi xj x9 xA w0 L B n0 g6) (WmuY3 12) ⟨0, 4, A, m, cap, ⟨by omega, by omega, by omega, by rw [show uptoL (sE) 0 = [] from rfl, List.append_nil]; exact hJ⟩, ?_⟩ (fun a w'' hI => roundY3 hn Q0 c0 c2 c3 c4 c5 x0 x1 x2 x3 x4 xB xC xD xE xF xG xH xI xJ xK xL xM xN xO xP xQ x5 x6 x7 x8 xR xS xT xU xV xW xX xY xZ xa xb xc xd xe xf xg xh xi xj x9 xA hexit hI)
  unfold FRY3
  exact ⟨u8, u9, zI, zJ, zK, zL, zM, zN, zO, zP, zQ, zR, zS, zT, zU, zV, zW, zX, zY, yN, yO, yP, yQ, yR, yS, yT, yU, yV, yW, yX, yY, yZ, ya, yb, yc, yd, ye, rfl⟩
end Go.Proofs.Ytopbdiekfhikmaa
