/- Layer 3, the document's side: the bits of a row, plain; the loop over the pieces. -/
import Derived.Test.YtopbdiekfhikmaaI1
import Derived.Test.YtopbdiekfhikmaaE8
import Derived.Deep.CutRange
namespace Go.Proofs.Ytopbdiekfhikmaa
open Go.RowKit
/-- The pieces' bits laid into v. -/
def pcW (n : Int) (v : Nat) : List (Nat × Nat × Nat) → Nat
  | [] => v
  | p :: l => pcW n (or32 v (pt (n / 2 ^ p.2.2) p.2.1 * 2 ^ p.1)) l
theorem pcW_app (n : Int) : ∀ (l m : List (Nat × Nat × Nat)) (v : Nat), pcW n v (l ++ m) = pcW n (pcW n v l) m := by
  intro l
  induction l with
  | nil => intro m v; rfl
  | cons p l ih => intro m v; exact ih m _
theorem pcW_succ {n : Int} {v k lo ln pl : Nat} {l : List (Nat × Nat × Nat)} (h : l[k]? = some (lo, ln, pl)) : pcW n v (l.take (k + 1)) = or32 (pcW n v (l.take k)) (pt (n / 2 ^ pl) ln * 2 ^ lo) := by
  rw [List.take_add_one, h, pcW_app]
  rfl
theorem pc_ok2 {c : Int} {k lo ln pl : Nat} (h : (pcN c)[k]? = some (lo, ln, pl)) : lo + ln ≤ 32 := by
  have key : ∀ l ∈ ([[(20, 12, 0)], [(7, 5, 0), (25, 7, 5)], [(8, 4, 1), (25, 6, 5), (7, 1, 11), (31, 1, 12)], [(12, 20, 12)], [(21, 10, 1), (20, 1, 11), (12, 8, 12), (31, 1, 20)], []] : List (List (Nat × Nat × Nat))), ∀ k, k < l.length → ((l[k]?).getD (0, 0, 0)).1 + ((l[k]?).getD (0, 0, 0)).2.1 ≤ 32 := by decide
  have hm : pcN c ∈ ([[(20, 12, 0)], [(7, 5, 0), (25, 7, 5)], [(8, 4, 1), (25, 6, 5), (7, 1, 11), (31, 1, 12)], [(12, 20, 12)], [(21, 10, 1), (20, 1, 11), (12, 8, 12), (31, 1, 20)], []] : List (List (Nat × Nat × Nat))) := by
    unfold pcN
    repeat' split
    all_goals simp
  have := key _ hm k (List.getElem?_eq_some_iff.1 h).1
  rw [h] at this
  exact this
theorem imm_at {w0 w : World} {L : List HP} {B : HP} {gx : Nat} {X : Ins} (h : Heap w0 w (B :: HP.blk gx (insA X) 25 :: L)) : w.cell? ⟨gx, 8, none⟩ = some (.int .i64 X.imm) := (c12 (Heap.heap h.f2)).2.2.2.2.2.2.2.2.1.1
theorem j_shr (n : Int) (pl : Nat) (hp : pl ≤ 32) (w : World) : (binOp .shr 2 (.int .i64 n) (.int .i64 (pl : Int))).run Try.prog w = .ok (.int .i64 (n / 2 ^ pl)) w := by
  rw [binOp_shr, shift_shr .i64 .i64 n pl (by omega) (by simp [IntKind.bits]; omega), Int.toNat_natCast]
  rfl
theorem j_one (ln : Nat) (hl : ln < 32) (w : World) : (binOp .shl 2 (.int .i64 1) (.int .i64 (ln : Int))).run Try.prog w = .ok (.int .i64 ((2 ^ ln : Nat) : Int)) w := by
  have h := i_shl 1 ln (by omega) (by have := pow_le (show ln ≤ 31 by omega); omega) w
  rwa [Nat.one_mul] at h
theorem j_sub (ln : Nat) (hl : ln < 32) (w : World) : (binOp .sub 2 (.int .i64 ((2 ^ ln : Nat) : Int)) (.int .i64 1)).run Try.prog w = .ok (.int .i64 ((2 ^ ln - 1 : Nat) : Int)) w := by
  have h := pow_le (show ln ≤ 31 by omega)
  have h1 : 1 ≤ 2 ^ ln := Nat.one_le_two_pow
  have e : (binOp .sub 2 (.int .i64 ((2 ^ ln : Nat) : Int)) (.int .i64 1)).run Try.prog w = .ok (.int .i64 (IntKind.i64.wrap (((2 ^ ln : Nat) : Int) - 1))) w := rfl
  rw [e, show (((2 ^ ln : Nat) : Int) - 1) = ((2 ^ ln - 1 : Nat) : Int) by rw [Int.natCast_sub h1]; rfl, wn64 (2 ^ ln - 1) (by omega)]
theorem pt_cast (n : Int) (ln : Nat) : ((pt n ln : Nat) : Int) = n % 2 ^ ln := by
  unfold pt
  exact Int.toNat_of_nonneg (Int.emod_nonneg _ (by have : (2 : Int) ^ ln = ((2 ^ ln : Nat) : Int) := by simp
                                                   have := Nat.one_le_two_pow (n := ln)
                                                   omega))
theorem j_and (n : Int) (ln : Nat) (hl : ln < 32) (w : World) : (binOp .and 2 (.int .i64 n) (.int .i64 ((2 ^ ln - 1 : Nat) : Int))).run Try.prog w = .ok (.int .i64 ((pt n ln : Nat) : Int)) w := by
  have h1 : 1 ≤ 2 ^ ln := Nat.one_le_two_pow
  have e : (binOp .and 2 (.int .i64 n) (.int .i64 ((2 ^ ln - 1 : Nat) : Int))).run Try.prog w = .ok (.int .i64 (bits .and .i64 n ((2 ^ ln - 1 : Nat) : Int))) w := rfl
  rw [e, show ((2 ^ ln - 1 : Nat) : Int) = (2 : Int) ^ ln - 1 by rw [Int.natCast_sub h1, Int.natCast_pow]; rfl, and64 n ln hl, pt_cast]
theorem j_conv (f : Nat) (hf : f < 4294967296) (w : World) : (convert 2 22 (.int .i64 (f : Int))).run Try.prog w = .ok (.int .u32 (f : Int)) w := by
  have e : (convert 2 22 (.int .i64 (f : Int))).run Try.prog w = .ok (.int .u32 (IntKind.u32.wrap (f : Int))) w := rfl
  rw [e, wn32 f hf]
theorem j_shl (f lo : Nat) (hp : lo < 32) (hf : f * 2 ^ lo < 4294967296) (w : World) : (binOp .shl 22 (.int .u32 (f : Int)) (.int .i64 (lo : Int))).run Try.prog w = .ok (.int .u32 ((f * 2 ^ lo : Nat) : Int)) w := by
  rw [binOp_shl, shift_shl .u32 .i64 f lo (by omega) (by simp [IntKind.bits]; omega), Int.toNat_natCast, show (f : Int) * 2 ^ lo = ((f * 2 ^ lo : Nat) : Int) by rw [Int.natCast_mul, Int.natCast_pow]; rfl, wn32 (f * 2 ^ lo) hf]
  rfl
theorem j_or (a b : Nat) (w : World) : (binOp .or 22 (.int .u32 (a : Int)) (.int .u32 (b : Int))).run Try.prog w = .ok (.int .u32 ((or32 a b : Nat) : Int)) w := by
  rw [or32_cast]
  rfl
theorem pt_fit (n : Int) {ln lo : Nat} (h : lo + ln ≤ 32) : pt n ln * 2 ^ lo < 4294967296 := by
  have h1 := pt_lt n ln
  have h2 : (pt n ln + 1) * 2 ^ lo ≤ 2 ^ ln * 2 ^ lo := Nat.mul_le_mul_right _ h1
  rw [← Nat.pow_add, Nat.add_mul] at h2
  have h3 := pow_le (show ln + lo ≤ 32 by omega)
  have h4 : 1 ≤ 2 ^ lo := Nat.one_le_two_pow
  omega
def loopsOfQ1 : Code → List Code
  | .loop c => [c]
  | .seq a b => loopsOfQ1 a ++ loopsOfQ1 b
  | .block _ c => loopsOfQ1 c
  | .scope c => loopsOfQ1 c
  | .cond _ a b => loopsOfQ1 a ++ loopsOfQ1 b
  | _ => []
noncomputable def bodyQ1 : Code := ((Try.f34.body.map loopsOfQ1).getD []).getD 0 .skip
set_option maxRecDepth 1000000 in
def FRQ1 (c0 c1 c2 c4 c8 c9 x1 x2 c12 x3 x4 x5 x6 x7 x8 x9 xA xB xC xD xE xF xG xH xI xJ xK xL xM xN xO xP xQ xR xS xT xU xV xW xX xY xZ xa xb xc xd xe xf xg xh xi xj xk xl xm xn xo xp xq xr xt xu xv xw y0 y1 y2 y3 y4 y5 y6 y7 y8 y9 yA yB yC yD yE yF yG yH yI yJ yK yL yM yN yO yP x0 : Value) (gx : Nat) (A : Option Addr) (nn v k : Nat) (a : Act) : Prop := ∃ yp : Value, ∃ yq : Value, ∃ yr : Value, ∃ yt : Value, ∃ yu : Value, ∃ yv : Value, ∃ yQ : Value, ∃ yR : Value, ∃ yS : Value, ∃ yT : Value, ∃ yU : Value, ∃ yV : Value, ∃ yW : Value, ∃ yX : Value, ∃ yY : Value, ∃ yZ : Value, ∃ ya : Value, ∃ yb : Value, ∃ yc : Value, ∃ yd : Value, ∃ ye : Value, ∃ yf : Value, ∃ yg : Value, ∃ yh : Value, ∃ yi : Value, ∃ yj : Value, ∃ yk : Value, ∃ yl : Value, ∃ ym : Value, ∃ yn : Value, ∃ yo : Value, a = ⟨#[c0, c1, c2, .pointer (some ⟨gx, 0, none⟩), c4, .int .u32 (v : Int), .slice A nn nn, .int .i64 (k : Int), c8, c9, x1, x2, c12, x3, x4, x5, x6, x7, x8, x9, xA, xB, xC, xD, xE, xF, xG, xH, xI, xJ, xK, xL, xM, xN, xO, xP, xQ, xR, xS, xT, xU, xV, xW, xX, xY, xZ, xa, xb, xc, xd, xe, xf, xg, xh, xi, xj, xk, xl, xm, xn, xo, xp, xq, xr, xt, xu, xv, xw, y0, y1, y2, y3, y4, y5, y6, y7, y8, y9, yA, yB, yC, yD, yE, yF, yG, yH, yI, yJ, yK, yL, yM, yN, yO, yP, yp, yq, yr, yt, yu, yv, yQ, yR, yS, yT, yU, yV, yW, yX, yY, yZ, ya, yb, yc, yd, ye, yf, yg, yh, yi, yj, yk, yl, ym, yn, yo, x0], []⟩
def WIQ1 (c0 c1 c2 c4 c8 c9 x1 x2 c12 x3 x4 x5 x6 x7 x8 x9 xA xB xC xD xE xF xG xH xI xJ xK xL xM xN xO xP xQ xR xS xT xU xV xW xX xY xZ xa xb xc xd xe xf xg xh xi xj xk xl xm xn xo xp xq xr xt xu xv xw y0 y1 y2 y3 y4 y5 y6 y7 y8 y9 yA yB yC yD yE yF yG yH yI yJ yK yL yM yN yO yP x0 : Value) (w0 : World) (L : List HP) (c : Int) (X : Ins) (gx : Nat) (A : Option Addr) (nn v0 : Nat) (a : Act) (wr : World) : Prop := ∃ (k v : Nat), (k ≤ nn ∧ v = pcW X.imm v0 ((pcN c).take k) ∧ Heap w0 wr (HP.slw (.slice A nn nn) 3 nn (pcsC (pcs c)) :: HP.blk gx (insA X) 25 :: L)) ∧ FRQ1 c0 c1 c2 c4 c8 c9 x1 x2 c12 x3 x4 x5 x6 x7 x8 x9 xA xB xC xD xE xF xG xH xI xJ xK xL xM xN xO xP xQ xR xS xT xU xV xW xX xY xZ xa xb xc xd xe xf xg xh xi xj xk xl xm xn xo xp xq xr xt xu xv xw y0 y1 y2 y3 y4 y5 y6 y7 y8 y9 yA yB yC yD yE yF yG yH yI yJ yK yL yM yN yO yP x0 gx A nn v k a
def WXQ1 (c0 c1 c2 c4 c8 c9 x1 x2 c12 x3 x4 x5 x6 x7 x8 x9 xA xB xC xD xE xF xG xH xI xJ xK xL xM xN xO xP xQ xR xS xT xU xV xW xX xY xZ xa xb xc xd xe xf xg xh xi xj xk xl xm xn xo xp xq xr xt xu xv xw y0 y1 y2 y3 y4 y5 y6 y7 y8 y9 yA yB yC yD yE yF yG yH yI yJ yK yL yM yN yO yP x0 : Value) (w0 : World) (L : List HP) (c : Int) (X : Ins) (gx : Nat) (A : Option Addr) (nn v0 : Nat) (a : Act) (wr : World) : Prop := ∃ (v : Nat), (v = pcW X.imm v0 (pcN c) ∧ Heap w0 wr (HP.slw (.slice A nn nn) 3 nn (pcsC (pcs c)) :: HP.blk gx (insA X) 25 :: L)) ∧ FRQ1 c0 c1 c2 c4 c8 c9 x1 x2 c12 x3 x4 x5 x6 x7 x8 x9 xA xB xC xD xE xF xG xH xI xJ xK xL xM xN xO xP xQ xR xS xT xU xV xW xX xY xZ xa xb xc xd xe xf xg xh xi xj xk xl xm xn xo xp xq xr xt xu xv xw y0 y1 y2 y3 y4 y5 y6 y7 y8 y9 yA yB yC yD yE yF yG yH yI yJ yK yL yM yN yO yP x0 gx A nn v nn a
def WmuQ1 (K : Nat) (a : Act) (_ : World) : Nat := K - (intOf (a.tmps.getD 7 undef)).toNat
variable {w0 : World} {L : List HP} {c : Int} {X : Ins} {gx v0 nn : Nat} {A : Option Addr}
set_option maxRecDepth 1000000 in
set_option maxHeartbeats 8000000 in
theorem oneQ1 (hA : 0 < nn → ∃ g, A = some ⟨g, 0, none⟩) (hnn : nn = (pcN c).length) {v k : Nat} {wr : World} (hv : v = pcW X.imm v0 ((pcN c).take k)) (hJ : Heap w0 wr (HP.slw (.slice A nn nn) 3 nn (pcsC (pcs c)) :: HP.blk gx (insA X) 25 :: L)) (hlt : k < nn) (Q0 : Exit → Act → World → Prop) (c0 c1 c2 c4 c8 c9 x1 x2 c12 x3 x4 x5 x6 x7 x8 x9 xA xB xC xD xE xF xG xH xI xJ xK xL xM xN xO xP xQ xR xS xT xU xV xW xX xY xZ xa xb xc xd xe xf xg xh xi xj xk xl xm xn xo xp xq xr xt xu xv xw y0 y1 y2 y3 y4 y5 y6 y7 y8 y9 yA yB yC yD yE yF yG yH yI yJ yK yL yM yN yO yP x0 yp yq yr yt yu yv yQ yR yS yT yU yV yW yX yY yZ ya yb yc yd ye yf yg yh yi yj yk yl ym yn yo : Value) :
    Code.wp Try.prog bodyQ1 (Exit.then (fun a' w'' => WIQ1 c0 c1 c2 c4 c8 c9 x1 x2 c12 x3 x4 x5 x6 x7 x8 x9 xA xB xC xD xE xF xG xH xI xJ xK xL xM xN xO xP xQ xR xS xT xU xV xW xX xY xZ xa xb xc xd xe xf xg xh xi xj xk xl xm xn xo xp xq xr xt xu xv xw y0 y1 y2 y3 y4 y5 y6 y7 y8 y9 yA yB yC yD yE yF yG yH yI yJ yK yL yM yN yO yP x0 w0 L c X gx A nn v0 a' w'' ∧ WmuQ1 nn a' w'' < nn - k) Q0) ⟨#[c0, c1, c2, .pointer (some ⟨gx, 0, none⟩), c4, .int .u32 (v : Int), .slice A nn nn, .int .i64 (k : Int), c8, c9, x1, x2, c12, x3, x4, x5, x6, x7, x8, x9, xA, xB, xC, xD, xE, xF, xG, xH, xI, xJ, xK, xL, xM, xN, xO, xP, xQ, xR, xS, xT, xU, xV, xW, xX, xY, xZ, xa, xb, xc, xd, xe, xf, xg, xh, xi, xj, xk, xl, xm, xn, xo, xp, xq, xr, xt, xu, xv, xw, y0, y1, y2, y3, y4, y5, y6, y7, y8, y9, yA, yB, yC, yD, yE, yF, yG, yH, yI, yJ, yK, yL, yM, yN, yO, yP, yp, yq, yr, yt, yu, yv, yQ, yR, yS, yT, yU, yV, yW, yX, yY, yZ, ya, yb, yc, yd, ye, yf, yg, yh, yi, yj, yk, yl, ym, yn, yo, x0], []⟩ wr := by
  obtain ⟨g, rfl⟩ := hA (by omega)
  clear hA
  conv => arg 2; whnf
  have HJ := hide hJ
  clear hJ
  obtain ⟨⟨lo, ln, pl⟩, hpc⟩ : ∃ p, (pcN c)[k]? = some p := ⟨_, List.getElem?_eq_getElem (by omega)⟩
  obtain ⟨q1, q2, q3, _⟩ := pc_ok hpc
  have q4 := pc_ok2 hpc
  have hn4 : nn ≤ 4 := by rw [hnn]; exact pcN_le c
  have hpl := pt_lt (X.imm / 2 ^ pl) ln
  have hpw := pow_le (show ln ≤ 20 by omega)
  have FA := hide (fun w => ix3_at (P := Try.prog) 64 67 Try.underlying64 (by kernel_rfl) g nn nn k hlt w)
  have F1 := hide (j_shr X.imm pl (by omega))
  have F2 := hide (j_one ln (by omega))
  have F3 := hide (j_sub ln (by omega))
  have F4 := hide (j_and (X.imm / 2 ^ pl) ln (by omega))
  have F5 := hide (j_conv (pt (X.imm / 2 ^ pl) ln) (by omega))
  have F6 := hide (j_shl (pt (X.imm / 2 ^ pl) ln) lo q1 (pt_fit _ q4))
  have F7 := hide (j_or v (pt (X.imm / 2 ^ pl) ln * 2 ^ lo))
  have HPC := hide hpc
  have HV := hide (show pcW X.imm v0 ((pcN c).take (k + 1)) = or32 v (pt (X.imm / 2 ^ pl) ln * 2 ^ lo) by rw [pcW_succ hpc, ← hv])
  have H4 := hide hn4
  clear hpc q1 q2 q3 q4 hn4 hnn hv hpl hpw
  go_wp2_with fail
  refine wp_region_F (fun w_ => Heap w0 w_ (HP.slw (.slice (some ⟨g, 0, none⟩) nn nn) 3 nn (pcsC (pcs c)) :: HP.blk gx (insA X) 25 :: L)) (fun _ _ => True) (fun k_ v_ w_ => match k_ with
      | 0 => v_ = .int .u32 (v : Int)
      | 1 => v_ = .pointer (some ⟨gx, 8, none⟩)
      | 2 => v_ = .int .i64 X.imm
      | 3 => v_ = .slice (some ⟨g, 0, none⟩) nn nn
      | 4 => v_ = .int .i64 (k : Int)
      | 5 => v_ = .pointer (some ⟨g, k * 3, none⟩)
      | 6 => v_ = .pointer (some ⟨g, k * 3 + 2, none⟩)
      | 7 => v_ = .int .i64 (pl : Int)
      | 8 => v_ = .int .i64 (X.imm / 2 ^ pl)
      | 9 => v_ = .slice (some ⟨g, 0, none⟩) nn nn
      | 10 => v_ = .int .i64 (k : Int)
      | 11 => v_ = .pointer (some ⟨g, k * 3, none⟩)
      | 12 => v_ = .pointer (some ⟨g, k * 3 + 1, none⟩)
      | 13 => v_ = .int .i64 (ln : Int)
      | 14 => v_ = .int .i64 ((2 ^ ln : Nat) : Int)
      | 15 => v_ = .int .i64 ((2 ^ ln - 1 : Nat) : Int)
      | 16 => v_ = .int .i64 ((pt (X.imm / 2 ^ pl) ln : Nat) : Int)
      | 17 => v_ = .int .u32 ((pt (X.imm / 2 ^ pl) ln : Nat) : Int)
      | 18 => v_ = .slice (some ⟨g, 0, none⟩) nn nn
      | 19 => v_ = .int .i64 (k : Int)
      | 20 => v_ = .pointer (some ⟨g, k * 3, none⟩)
      | 21 => v_ = .pointer (some ⟨g, k * 3 + 0, none⟩)
      | 22 => v_ = .int .i64 (lo : Int)
      | 23 => v_ = .int .u32 ((pt (X.imm / 2 ^ pl) ln * 2 ^ lo : Nat) : Int)
      | 24 => v_ = .int .u32 ((or32 v (pt (X.imm / 2 ^ pl) ln * 2 ^ lo) : Nat) : Int)
      | _ => v_ = .int .u32 ((or32 v (pt (X.imm / 2 ^ pl) ln * 2 ^ lo) : Nat) : Int)) fol (by kernel_rfl) ?_ ?_ ?_ ?_
  · exact (unhide HJ).drew
  · intro k_ v_ w_ w2_ h1 hg
    split at h1 <;> exact h1
  · intro vals
    show wpG _ _ _ _ _ _ 0 (_ :: _) _
    refine wpG_cons (gval (.int .u32 (v : Int)) (fun _ => trivial) fun w_ hJ hd => ?_) ?_
    · exact ⟨by kernel_rfl, by kernel_rfl, rfl⟩
    refine wpG_cons (gval (.pointer (some ⟨gx, 8, none⟩)) (fun _ => trivial) fun w_ hJ hd => ?_) ?_
    · exact ⟨by kernel_rfl, by kernel_rfl, rfl⟩
    refine wpG_cons (gop (Instr.loadAt 2 (.pointer (some ⟨gx, 8, none⟩))) (.int .i64 X.imm) (fun _ => trivial) fun w_ hJ hd => ?_) ?_
    · have e1 : vals 1 = _ := hd 1 (by decide) (by kernel_rfl)
      rw [e1]
      exact ⟨by kernel_rfl, by kernel_rfl, run_load1 (by kernel_rfl) (imm_at hJ), rfl⟩
    refine wpG_cons (gval (.slice (some ⟨g, 0, none⟩) nn nn) (fun _ => trivial) fun w_ hJ hd => ?_) ?_
    · exact ⟨by kernel_rfl, by kernel_rfl, rfl⟩
    refine wpG_cons (gval (.int .i64 (k : Int)) (fun _ => trivial) fun w_ hJ hd => ?_) ?_
    · exact ⟨by kernel_rfl, by kernel_rfl, rfl⟩
    refine wpG_cons (gop (Instr.indexAt 64 (.slice (some ⟨g, 0, none⟩) nn nn) (.int .i64 (k : Int))) (.pointer (some ⟨g, k * 3, none⟩)) (fun _ => trivial) fun w_ hJ hd => ?_) ?_
    · have e3 : vals 3 = _ := hd 3 (by decide) (by kernel_rfl)
      have e4 : vals 4 = _ := hd 4 (by decide) (by kernel_rfl)
      rw [e3, e4]
      exact ⟨by kernel_rfl, by kernel_rfl, unhide FA w_, rfl⟩
    refine wpG_cons (gval (.pointer (some ⟨g, k * 3 + 2, none⟩)) (fun _ => trivial) fun w_ hJ hd => ?_) ?_
    · have e5 : vals 5 = _ := hd 5 (by decide) (by kernel_rfl)
      rw [e5]
      exact ⟨by kernel_rfl, by kernel_rfl, rfl⟩
    refine wpG_cons (gop (Instr.loadAt 3 (.pointer (some ⟨g, k * 3 + 2, none⟩))) (.int .i64 (pl : Int)) (fun _ => trivial) fun w_ hJ hd => ?_) ?_
    · have e6 : vals 6 = _ := hd 6 (by decide) (by kernel_rfl)
      rw [e6]
      exact ⟨by kernel_rfl, by kernel_rfl, run_load1 (by kernel_rfl) (pc_at hJ (unhide HPC)).2.2, rfl⟩
    refine wpG_cons (gop (binOp .shr 2 (.int .i64 X.imm) (.int .i64 (pl : Int))) (.int .i64 (X.imm / 2 ^ pl)) (fun _ => trivial) fun w_ hJ hd => ?_) ?_
    · have e2 : vals 2 = _ := hd 2 (by decide) (by kernel_rfl)
      have e7 : vals 7 = _ := hd 7 (by decide) (by kernel_rfl)
      rw [e2, e7]
      exact ⟨by kernel_rfl, by kernel_rfl, unhide F1 w_, rfl⟩
    refine wpG_cons (gval (.slice (some ⟨g, 0, none⟩) nn nn) (fun _ => trivial) fun w_ hJ hd => ?_) ?_
    · exact ⟨by kernel_rfl, by kernel_rfl, rfl⟩
    refine wpG_cons (gval (.int .i64 (k : Int)) (fun _ => trivial) fun w_ hJ hd => ?_) ?_
    · exact ⟨by kernel_rfl, by kernel_rfl, rfl⟩
    refine wpG_cons (gop (Instr.indexAt 64 (.slice (some ⟨g, 0, none⟩) nn nn) (.int .i64 (k : Int))) (.pointer (some ⟨g, k * 3, none⟩)) (fun _ => trivial) fun w_ hJ hd => ?_) ?_
    · have e9 : vals 9 = _ := hd 9 (by decide) (by kernel_rfl)
      have e10 : vals 10 = _ := hd 10 (by decide) (by kernel_rfl)
      rw [e9, e10]
      exact ⟨by kernel_rfl, by kernel_rfl, unhide FA w_, rfl⟩
    refine wpG_cons (gval (.pointer (some ⟨g, k * 3 + 1, none⟩)) (fun _ => trivial) fun w_ hJ hd => ?_) ?_
    · have e11 : vals 11 = _ := hd 11 (by decide) (by kernel_rfl)
      rw [e11]
      exact ⟨by kernel_rfl, by kernel_rfl, rfl⟩
    refine wpG_cons (gop (Instr.loadAt 3 (.pointer (some ⟨g, k * 3 + 1, none⟩))) (.int .i64 (ln : Int)) (fun _ => trivial) fun w_ hJ hd => ?_) ?_
    · have e12 : vals 12 = _ := hd 12 (by decide) (by kernel_rfl)
      rw [e12]
      exact ⟨by kernel_rfl, by kernel_rfl, run_load1 (by kernel_rfl) (pc_at hJ (unhide HPC)).2.1, rfl⟩
    refine wpG_cons (gop (binOp .shl 2 (.int .i64 1) (.int .i64 (ln : Int))) (.int .i64 ((2 ^ ln : Nat) : Int)) (fun _ => trivial) fun w_ hJ hd => ?_) ?_
    · have e13 : vals 13 = _ := hd 13 (by decide) (by kernel_rfl)
      rw [e13]
      exact ⟨by kernel_rfl, by kernel_rfl, unhide F2 w_, rfl⟩
    refine wpG_cons (gop (binOp .sub 2 (.int .i64 ((2 ^ ln : Nat) : Int)) (.int .i64 1)) (.int .i64 ((2 ^ ln - 1 : Nat) : Int)) (fun _ => trivial) fun w_ hJ hd => ?_) ?_
    · have e14 : vals 14 = _ := hd 14 (by decide) (by kernel_rfl)
      rw [e14]
      exact ⟨by kernel_rfl, by kernel_rfl, unhide F3 w_, rfl⟩
    refine wpG_cons (gop (binOp .and 2 (.int .i64 (X.imm / 2 ^ pl)) (.int .i64 ((2 ^ ln - 1 : Nat) : Int))) (.int .i64 ((pt (X.imm / 2 ^ pl) ln : Nat) : Int)) (fun _ => trivial) fun w_ hJ hd => ?_) ?_
    · have e8 : vals 8 = _ := hd 8 (by decide) (by kernel_rfl)
      have e15 : vals 15 = _ := hd 15 (by decide) (by kernel_rfl)
      rw [e8, e15]
      exact ⟨by kernel_rfl, by kernel_rfl, unhide F4 w_, rfl⟩
    refine wpG_cons (gop (convert 2 22 (.int .i64 ((pt (X.imm / 2 ^ pl) ln : Nat) : Int))) (.int .u32 ((pt (X.imm / 2 ^ pl) ln : Nat) : Int)) (fun _ => trivial) fun w_ hJ hd => ?_) ?_
    · have e16 : vals 16 = _ := hd 16 (by decide) (by kernel_rfl)
      rw [e16]
      exact ⟨by kernel_rfl, by kernel_rfl, unhide F5 w_, rfl⟩
    refine wpG_cons (gval (.slice (some ⟨g, 0, none⟩) nn nn) (fun _ => trivial) fun w_ hJ hd => ?_) ?_
    · exact ⟨by kernel_rfl, by kernel_rfl, rfl⟩
    refine wpG_cons (gval (.int .i64 (k : Int)) (fun _ => trivial) fun w_ hJ hd => ?_) ?_
    · exact ⟨by kernel_rfl, by kernel_rfl, rfl⟩
    refine wpG_cons (gop (Instr.indexAt 64 (.slice (some ⟨g, 0, none⟩) nn nn) (.int .i64 (k : Int))) (.pointer (some ⟨g, k * 3, none⟩)) (fun _ => trivial) fun w_ hJ hd => ?_) ?_
    · have e18 : vals 18 = _ := hd 18 (by decide) (by kernel_rfl)
      have e19 : vals 19 = _ := hd 19 (by decide) (by kernel_rfl)
      rw [e18, e19]
      exact ⟨by kernel_rfl, by kernel_rfl, unhide FA w_, rfl⟩
    refine wpG_cons (gval (.pointer (some ⟨g, k * 3 + 0, none⟩)) (fun _ => trivial) fun w_ hJ hd => ?_) ?_
    · have e20 : vals 20 = _ := hd 20 (by decide) (by kernel_rfl)
      rw [e20]
      exact ⟨by kernel_rfl, by kernel_rfl, rfl⟩
    refine wpG_cons (gop (Instr.loadAt 3 (.pointer (some ⟨g, k * 3 + 0, none⟩))) (.int .i64 (lo : Int)) (fun _ => trivial) fun w_ hJ hd => ?_) ?_
    · have e21 : vals 21 = _ := hd 21 (by decide) (by kernel_rfl)
      rw [e21]
      exact ⟨by kernel_rfl, by kernel_rfl, run_load1 (by kernel_rfl) (pc_at hJ (unhide HPC)).1, rfl⟩
    refine wpG_cons (gop (binOp .shl 22 (.int .u32 ((pt (X.imm / 2 ^ pl) ln : Nat) : Int)) (.int .i64 (lo : Int))) (.int .u32 ((pt (X.imm / 2 ^ pl) ln * 2 ^ lo : Nat) : Int)) (fun _ => trivial) fun w_ hJ hd => ?_) ?_
    · have e17 : vals 17 = _ := hd 17 (by decide) (by kernel_rfl)
      have e22 : vals 22 = _ := hd 22 (by decide) (by kernel_rfl)
      rw [e17, e22]
      exact ⟨by kernel_rfl, by kernel_rfl, unhide F6 w_, rfl⟩
    refine wpG_cons (gop (binOp .or 22 (.int .u32 (v : Int)) (.int .u32 ((pt (X.imm / 2 ^ pl) ln * 2 ^ lo : Nat) : Int))) (.int .u32 ((or32 v (pt (X.imm / 2 ^ pl) ln * 2 ^ lo) : Nat) : Int)) (fun _ => trivial) fun w_ hJ hd => ?_) ?_
    · have e0 : vals 0 = _ := hd 0 (by decide) (by kernel_rfl)
      have e23 : vals 23 = _ := hd 23 (by decide) (by kernel_rfl)
      rw [e0, e23]
      exact ⟨by kernel_rfl, by kernel_rfl, unhide F7 w_, rfl⟩
    refine wpG_cons (gval (.int .u32 ((or32 v (pt (X.imm / 2 ^ pl) ln * 2 ^ lo) : Nat) : Int)) (fun _ => trivial) fun w_ hJ hd => ?_) wpG_nil
    · have e24 : vals 24 = _ := hd 24 (by decide) (by kernel_rfl)
      rw [e24]
      exact ⟨by kernel_rfl, by kernel_rfl, rfl⟩
  · intro vals w_ hJ hf
    have e0 : vals 0 = _ := hf 0 (by decide)
    have e1 : vals 1 = _ := hf 1 (by decide)
    have e2 : vals 2 = _ := hf 2 (by decide)
    have e3 : vals 3 = _ := hf 3 (by decide)
    have e4 : vals 4 = _ := hf 4 (by decide)
    have e5 : vals 5 = _ := hf 5 (by decide)
    have e6 : vals 6 = _ := hf 6 (by decide)
    have e7 : vals 7 = _ := hf 7 (by decide)
    have e8 : vals 8 = _ := hf 8 (by decide)
    have e9 : vals 9 = _ := hf 9 (by decide)
    have e10 : vals 10 = _ := hf 10 (by decide)
    have e11 : vals 11 = _ := hf 11 (by decide)
    have e12 : vals 12 = _ := hf 12 (by decide)
    have e13 : vals 13 = _ := hf 13 (by decide)
    have e14 : vals 14 = _ := hf 14 (by decide)
    have e15 : vals 15 = _ := hf 15 (by decide)
    have e16 : vals 16 = _ := hf 16 (by decide)
    have e17 : vals 17 = _ := hf 17 (by decide)
    have e18 : vals 18 = _ := hf 18 (by decide)
    have e19 : vals 19 = _ := hf 19 (by decide)
    have e20 : vals 20 = _ := hf 20 (by decide)
    have e21 : vals 21 = _ := hf 21 (by decide)
    have e22 : vals 22 = _ := hf 22 (by decide)
    have e23 : vals 23 = _ := hf 23 (by decide)
    have e24 : vals 24 = _ := hf 24 (by decide)
    have e25 : vals 25 = _ := hf 25 (by decide)
    simp only [fillG, Nat.zero_add, Nat.reduceAdd, e0, e1, e2, e3, e4, e5, e6, e7, e8, e9, e10, e11, e12, e13, e14, e15, e16, e17, e18, e19, e20, e21, e22, e23, e24, e25, Act.put, List.setIfInBounds_toArray, List.set_cons_succ, List.set_cons_zero]
    clear e0 e1 e2 e3 e4 e5 e6 e7 e8 e9 e10 e11 e12 e13 e14 e15 e16 e17 e18 e19 e20 e21 e22 e23 e24 e25 hf
    clear HJ
    have HJ := hide hJ
    clear hJ
    have h4 := unhide H4
    go_wp2
    have e7 : (k : Int) + 1 = ((k + 1 : Nat) : Int) := rfl
    try rw [e7]
    refine ⟨⟨k + 1, or32 v (pt (X.imm / 2 ^ pl) ln * 2 ^ lo), ⟨hlt, (unhide HV).symm, unhide HJ⟩, ?_⟩, by simp [WmuQ1, intOf]; omega⟩
    unfold FRQ1
    refine ⟨_, _, _, _, _, _, _, _, _, _, _, _, _, _, _, _, _, _, _, _, _, _, _, _, _, _, _, _, _, _, _, rfl⟩
set_option maxRecDepth 1000000 in
set_option maxHeartbeats 8000000 in
theorem roundQ1 (hA : 0 < nn → ∃ g, A = some ⟨g, 0, none⟩) (hnn : nn = (pcN c).length) (Q0 : Exit → Act → World → Prop) (c0 c1 c2 c4 c8 c9 x1 x2 c12 x3 x4 x5 x6 x7 x8 x9 xA xB xC xD xE xF xG xH xI xJ xK xL xM xN xO xP xQ xR xS xT xU xV xW xX xY xZ xa xb xc xd xe xf xg xh xi xj xk xl xm xn xo xp xq xr xt xu xv xw y0 y1 y2 y3 y4 y5 y6 y7 y8 y9 yA yB yC yD yE yF yG yH yI yJ yK yL yM yN yO yP x0 : Value) (hexit : ∀ a' w'', WXQ1 c0 c1 c2 c4 c8 c9 x1 x2 c12 x3 x4 x5 x6 x7 x8 x9 xA xB xC xD xE xF xG xH xI xJ xK xL xM xN xO xP xQ xR xS xT xU xV xW xX xY xZ xa xb xc xd xe xf xg xh xi xj xk xl xm xn xo xp xq xr xt xu xv xw y0 y1 y2 y3 y4 y5 y6 y7 y8 y9 yA yB yC yD yE yF yG yH yI yJ yK yL yM yN yO yP x0 w0 L c X gx A nn v0 a' w'' → Q0 (.exit 0) a' w'') {a : Act} {wr : World} (hI : WIQ1 c0 c1 c2 c4 c8 c9 x1 x2 c12 x3 x4 x5 x6 x7 x8 x9 xA xB xC xD xE xF xG xH xI xJ xK xL xM xN xO xP xQ xR xS xT xU xV xW xX xY xZ xa xb xc xd xe xf xg xh xi xj xk xl xm xn xo xp xq xr xt xu xv xw y0 y1 y2 y3 y4 y5 y6 y7 y8 y9 yA yB yC yD yE yF yG yH yI yJ yK yL yM yN yO yP x0 w0 L c X gx A nn v0 a wr) :
    Code.wp Try.prog bodyQ1 (Exit.then (fun a' w'' => WIQ1 c0 c1 c2 c4 c8 c9 x1 x2 c12 x3 x4 x5 x6 x7 x8 x9 xA xB xC xD xE xF xG xH xI xJ xK xL xM xN xO xP xQ xR xS xT xU xV xW xX xY xZ xa xb xc xd xe xf xg xh xi xj xk xl xm xn xo xp xq xr xt xu xv xw y0 y1 y2 y3 y4 y5 y6 y7 y8 y9 yA yB yC yD yE yF yG yH yI yJ yK yL yM yN yO yP x0 w0 L c X gx A nn v0 a' w'' ∧ WmuQ1 nn a' w'' < WmuQ1 nn a wr) Q0) a wr := by
  obtain ⟨k, v, ⟨hk, hv, hJ⟩, hF⟩ := hI
  unfold FRQ1 at hF
  obtain ⟨yp, hF⟩ := hF
  obtain ⟨yq, hF⟩ := hF
  obtain ⟨yr, hF⟩ := hF
  obtain ⟨yt, hF⟩ := hF
  obtain ⟨yu, hF⟩ := hF
  obtain ⟨yv, hF⟩ := hF
  obtain ⟨yQ, hF⟩ := hF
  obtain ⟨yR, hF⟩ := hF
  obtain ⟨yS, hF⟩ := hF
  obtain ⟨yT, hF⟩ := hF
  obtain ⟨yU, hF⟩ := hF
  obtain ⟨yV, hF⟩ := hF
  obtain ⟨yW, hF⟩ := hF
  obtain ⟨yX, hF⟩ := hF
  obtain ⟨yY, hF⟩ := hF
  obtain ⟨yZ, hF⟩ := hF
  obtain ⟨ya, hF⟩ := hF
  obtain ⟨yb, hF⟩ := hF
  obtain ⟨yc, hF⟩ := hF
  obtain ⟨yd, hF⟩ := hF
  obtain ⟨ye, hF⟩ := hF
  obtain ⟨yf, hF⟩ := hF
  obtain ⟨yg, hF⟩ := hF
  obtain ⟨yh, hF⟩ := hF
  obtain ⟨yi, hF⟩ := hF
  obtain ⟨yj, hF⟩ := hF
  obtain ⟨yk, hF⟩ := hF
  obtain ⟨yl, hF⟩ := hF
  obtain ⟨ym, hF⟩ := hF
  obtain ⟨yn, hF⟩ := hF
  obtain ⟨yo, hF⟩ := hF
  subst hF
  by_cases hlt : k < nn
  · exact oneQ1 hA hnn hv hJ hlt Q0 _ _ _ _ _ _ _ _ _ _ _ _ _ _ _ _ _ _ _ _ _ _ _ _ _ _ _ _ _ _ _ _ _ _ _ _ _ _ _ _ _ _ _ _ _ _ _ _ _ _ _ _ _ _ _ _ _ _ _ _ _ _ _ _ _ _ _ _ _ _ _ _ _ _ _ _ _ _ _ _ _ _ _ _ _ _ _ _ _ _ _ _ _ _ _ _ _ _ _ _ _ _ _ _ _ _ _ _ _ _ _ _ _ _ _ _ _ _ _ _ _ _
  · obtain rfl : k = nn := by omega
    rw [hnn, List.take_length] at hv
    have HJ := hide hJ
    have HV := hide hv
    clear hJ hnn hv hA
    conv => arg 2; whnf
    go_wp2
    refine ⟨v, ⟨unhide HV, unhide HJ⟩, ?_⟩
    unfold FRQ1
    refine ⟨_, _, _, _, _, _, _, _, _, _, _, _, _, _, _, _, _, _, _, _, _, _, _, _, _, _, _, _, _, _, _, rfl⟩
set_option maxRecDepth 1000000 in
theorem loopQ1 (hA : 0 < nn → ∃ g, A = some ⟨g, 0, none⟩) (hnn : nn = (pcN c).length) (Q0 : Exit → Act → World → Prop) (c0 c1 c2 c4 c8 c9 x1 x2 c12 x3 x4 x5 x6 x7 x8 x9 xA xB xC xD xE xF xG xH xI xJ xK xL xM xN xO xP xQ xR xS xT xU xV xW xX xY xZ xa xb xc xd xe xf xg xh xi xj xk xl xm xn xo xp xq xr xt xu xv xw y0 y1 y2 y3 y4 y5 y6 y7 y8 y9 yA yB yC yD yE yF yG yH yI yJ yK yL yM yN yO yP x0 : Value) {wr : World} (hJ : Heap w0 wr (HP.slw (.slice A nn nn) 3 nn (pcsC (pcs c)) :: HP.blk gx (insA X) 25 :: L)) (yp yq yr yt yu yv yQ yR yS yT yU yV yW yX yY yZ ya yb yc yd ye yf yg yh yi yj yk yl ym yn yo : Value) (hexit : ∀ a' w'', WXQ1 c0 c1 c2 c4 c8 c9 x1 x2 c12 x3 x4 x5 x6 x7 x8 x9 xA xB xC xD xE xF xG xH xI xJ xK xL xM xN xO xP xQ xR xS xT xU xV xW xX xY xZ xa xb xc xd xe xf xg xh xi xj xk xl xm xn xo xp xq xr xt xu xv xw y0 y1 y2 y3 y4 y5 y6 y7 y8 y9 yA yB yC yD yE yF yG yH yI yJ yK yL yM yN yO yP x0 w0 L c X gx A nn v0 a' w'' → Q0 (.exit 0) a' w'') :
    Code.wp Try.prog (Code.loop bodyQ1) Q0 ⟨#[c0, c1, c2, .pointer (some ⟨gx, 0, none⟩), c4, .int .u32 (v0 : Int), .slice A nn nn, .int .i64 0, c8, c9, x1, x2, c12, x3, x4, x5, x6, x7, x8, x9, xA, xB, xC, xD, xE, xF, xG, xH, xI, xJ, xK, xL, xM, xN, xO, xP, xQ, xR, xS, xT, xU, xV, xW, xX, xY, xZ, xa, xb, xc, xd, xe, xf, xg, xh, xi, xj, xk, xl, xm, xn, xo, xp, xq, xr, xt, xu, xv, xw, y0, y1, y2, y3, y4, y5, y6, y7, y8, y9, yA, yB, yC, yD, yE, yF, yG, yH, yI, yJ, yK, yL, yM, yN, yO, yP, yp, yq, yr, yt, yu, yv, yQ, yR, yS, yT, yU, yV, yW, yX, yY, yZ, ya, yb, yc, yd, ye, yf, yg, yh, yi, yj, yk, yl, ym, yn, yo, x0], []⟩ wr := by
  refine wp_loop (WIQ1 c0 c1 c2 c4 c8 c9 x1 x2 c12 x3 x4 x5 x6 x7 x8 x9 xA xB xC xD xE xF xG xH xI xJ xK xL xM xN xO xP xQ xR xS xT xU xV xW xX xY xZ xa xb xc xd xe xf xg xh xi xj xk xl xm xn xo xp xq xr xt xu xv xw y0 y1 y2 y3 y4 y5 y6 y7 y8 y9 yA yB yC yD yE yF yG yH yI yJ yK yL yM yN yO yP x0 w0 L c X gx A nn v0) (WmuQ1 nn) ⟨0, v0, ⟨Nat.zero_le _, rfl, hJ⟩, ?_⟩ (fun a w'' hI => roundQ1 hA hnn Q0 c0 c1 c2 c4 c8 c9 x1 x2 c12 x3 x4 x5 x6 x7 x8 x9 xA xB xC xD xE xF xG xH xI xJ xK xL xM xN xO xP xQ xR xS xT xU xV xW xX xY xZ xa xb xc xd xe xf xg xh xi xj xk xl xm xn xo xp xq xr xt xu xv xw y0 y1 y2 y3 y4 y5 y6 y7 y8 y9 yA yB yC yD yE yF yG yH yI yJ yK yL yM yN yO yP x0 hexit hI)
  unfold FRQ1
  exact ⟨yp, yq, yr, yt, yu, yv, yQ, yR, yS, yT, yU, yV, yW, yX, yY, yZ, ya, yb, yc, yd, ye, yf, yg, yh, yi, yj, yk, yl, ym, yn, yo, rfl⟩
end Go.Proofs.Ytopbdiekfhikmaa
