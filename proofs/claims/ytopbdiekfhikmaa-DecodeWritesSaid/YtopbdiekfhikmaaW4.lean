/- Layer 3, the document's side: whole: the loop over the kinds. / Layer 3, the document's side: whole: the fifth loop. -/
import Derived.Test.YtopbdiekfhikmaaW1
import Derived.Deep.CutRange
namespace Go.Proofs.Ytopbdiekfhikmaa
open Go.RowKit
def loopsOfW4 : Code → List Code
  | .loop c => [c]
  | .seq a b => loopsOfW4 a ++ loopsOfW4 b
  | .block _ c => loopsOfW4 c
  | .scope c => loopsOfW4 c
  | .cond _ a b => loopsOfW4 a ++ loopsOfW4 b
  | _ => []
noncomputable def bodyW4 : Code := ((Try.f41.body.map loopsOfW4).getD []).getD 3 .skip
set_option maxRecDepth 1000000 in
def FRW4 (c0 c2 c3 c4 c5 c8 c9 yX yY yZ ya yb yc yd ye yf yg yh yi yj yk yl ym yn yo yp yq yr yt yu yv yw z0 z2 z3 z4 z6 z7 z8 z9 zA zB zC zD zE zF zG zH zI zJ zK zL zM zN zO zP zQ zR zS zT zU zV zW zX zY x0 x1 x2 x3 x4 x5 x6 x7 x8 x9 xA xB xC xD xE xF xG xH xI xJ xK xL xM xN xO xP xQ xR xS xT xU xV xW xX xY xZ xa xb xc xd xe xf xg xh xi xj xk xl xm xn xo xp xq xr xt xu xv xw y0 y1 y2 y3 y4 y5 y6 y7 y8 y9 yA yB yC yD yE yF yG yH yI yJ yK yL yM yN yO yP yQ yR yS yT yU yV yW : Value) (A : Option Addr) (m cap gk k : Nat) (a : Act) : Prop := ∃ zc : Value, ∃ zd : Value, ∃ ze : Value, ∃ zf : Value, ∃ zg : Value, ∃ zh : Value, ∃ zi : Value, ∃ zj : Value, ∃ zk : Value, ∃ zl : Value, ∃ zm : Value, ∃ zn : Value, ∃ zo : Value, ∃ zp : Value, ∃ zq : Value, ∃ zr : Value, ∃ zt : Value, ∃ zu : Value, ∃ zv : Value, ∃ zw : Value, ∃ q0 : Value, ∃ q1 : Value, ∃ q2 : Value, ∃ q3 : Value, ∃ q4 : Value, ∃ q5 : Value, ∃ q6 : Value, ∃ q7 : Value, ∃ q8 : Value, ∃ q9 : Value, ∃ qA : Value, ∃ qB : Value, ∃ zZ : Value, ∃ za : Value, ∃ zb : Value, a = ⟨#[c0, .slice A m cap, c2, c3, c4, c5, .slice (some ⟨gk, 0, none⟩) 8 8, .int .i64 (k : Int), c8, c9, yX, yY, yZ, ya, yb, yc, yd, ye, yf, yg, yh, yi, yj, yk, yl, ym, yn, yo, yp, yq, yr, yt, yu, yv, yw, z0, z2, z3, z4, z6, z7, z8, z9, zA, zB, zC, zD, zE, zF, zG, zH, zI, zJ, zK, zL, zM, zN, zO, zP, zQ, zR, zS, zT, zU, zV, zW, zX, zY, zc, zd, ze, zf, zg, zh, zi, zj, zk, zl, zm, zn, zo, zp, zq, zr, zt, zu, zv, zw, q0, q1, q2, q3, q4, q5, q6, q7, q8, q9, qA, qB, zZ, za, zb, x0, x1, x2, x3, x4, x5, x6, x7, x8, x9, xA, xB, xC, xD, xE, xF, xG, xH, xI, xJ, xK, xL, xM, xN, xO, xP, xQ, xR, xS, xT, xU, xV, xW, xX, xY, xZ, xa, xb, xc, xd, xe, xf, xg, xh, xi, xj, xk, xl, xm, xn, xo, xp, xq, xr, xt, xu, xv, xw, y0, y1, y2, y3, y4, y5, y6, y7, y8, y9, yA, yB, yC, yD, yE, yF, yG, yH, yI, yJ, yK, yL, yM, yN, yO, yP, yQ, yR, yS, yT, yU, yV, yW], []⟩
def WIw4 (c0 c2 c3 c4 c5 c8 c9 yX yY yZ ya yb yc yd ye yf yg yh yi yj yk yl ym yn yo yp yq yr yt yu yv yw z0 z2 z3 z4 z6 z7 z8 z9 zA zB zC zD zE zF zG zH zI zJ zK zL zM zN zO zP zQ zR zS zT zU zV zW zX zY x0 x1 x2 x3 x4 x5 x6 x7 x8 x9 xA xB xC xD xE xF xG xH xI xJ xK xL xM xN xO xP xQ xR xS xT xU xV xW xX xY xZ xa xb xc xd xe xf xg xh xi xj xk xl xm xn xo xp xq xr xt xu xv xw y0 y1 y2 y3 y4 y5 y6 y7 y8 y9 yA yB yC yD yE yF yG yH yI yJ yK yL yM yN yO yP yQ yR yS yT yU yV yW : Value) (w0 : World) (L : List HP) (B : List RowS) (n0 gk : Nat) (a : Act) (wr : World) : Prop := ∃ (k : Nat) (A : Option Addr) (m cap : Nat), (k ≤ 8 ∧ m ≤ n0 + 3 * k ∧ Heap w0 wr (HP.slw (.slice A m cap) 7 m (rowsC (B ++ uptoL wE k)) :: HP.slw (.slice (some ⟨gk, 0, none⟩) 8 8) 1 8 ksE :: L)) ∧ FRW4 c0 c2 c3 c4 c5 c8 c9 yX yY yZ ya yb yc yd ye yf yg yh yi yj yk yl ym yn yo yp yq yr yt yu yv yw z0 z2 z3 z4 z6 z7 z8 z9 zA zB zC zD zE zF zG zH zI zJ zK zL zM zN zO zP zQ zR zS zT zU zV zW zX zY x0 x1 x2 x3 x4 x5 x6 x7 x8 x9 xA xB xC xD xE xF xG xH xI xJ xK xL xM xN xO xP xQ xR xS xT xU xV xW xX xY xZ xa xb xc xd xe xf xg xh xi xj xk xl xm xn xo xp xq xr xt xu xv xw y0 y1 y2 y3 y4 y5 y6 y7 y8 y9 yA yB yC yD yE yF yG yH yI yJ yK yL yM yN yO yP yQ yR yS yT yU yV yW A m cap gk k a
def WXw4 (c0 c2 c3 c4 c5 c8 c9 yX yY yZ ya yb yc yd ye yf yg yh yi yj yk yl ym yn yo yp yq yr yt yu yv yw z0 z2 z3 z4 z6 z7 z8 z9 zA zB zC zD zE zF zG zH zI zJ zK zL zM zN zO zP zQ zR zS zT zU zV zW zX zY x0 x1 x2 x3 x4 x5 x6 x7 x8 x9 xA xB xC xD xE xF xG xH xI xJ xK xL xM xN xO xP xQ xR xS xT xU xV xW xX xY xZ xa xb xc xd xe xf xg xh xi xj xk xl xm xn xo xp xq xr xt xu xv xw y0 y1 y2 y3 y4 y5 y6 y7 y8 y9 yA yB yC yD yE yF yG yH yI yJ yK yL yM yN yO yP yQ yR yS yT yU yV yW : Value) (w0 : World) (L : List HP) (B : List RowS) (n0 gk : Nat) (a : Act) (wr : World) : Prop := ∃ (A : Option Addr) (m cap : Nat), (m ≤ n0 + 24 ∧ Heap w0 wr (HP.slw (.slice A m cap) 7 m (rowsC (B ++ uptoL wE 8)) :: HP.slw (.slice (some ⟨gk, 0, none⟩) 8 8) 1 8 ksE :: L)) ∧ FRW4 c0 c2 c3 c4 c5 c8 c9 yX yY yZ ya yb yc yd ye yf yg yh yi yj yk yl ym yn yo yp yq yr yt yu yv yw z0 z2 z3 z4 z6 z7 z8 z9 zA zB zC zD zE zF zG zH zI zJ zK zL zM zN zO zP zQ zR zS zT zU zV zW zX zY x0 x1 x2 x3 x4 x5 x6 x7 x8 x9 xA xB xC xD xE xF xG xH xI xJ xK xL xM xN xO xP xQ xR xS xT xU xV xW xX xY xZ xa xb xc xd xe xf xg xh xi xj xk xl xm xn xo xp xq xr xt xu xv xw y0 y1 y2 y3 y4 y5 y6 y7 y8 y9 yA yB yC yD yE yF yG yH yI yJ yK yL yM yN yO yP yQ yR yS yT yU yV yW A m cap gk 8 a
def WmuW4 (K : Nat) (a : Act) (_ : World) : Nat := K - (intOf (a.tmps.getD 7 undef)).toNat
variable {w0 : World} {L : List HP} {B : List RowS} {n0 gk : Nat}
set_option maxRecDepth 1000000 in
set_option maxHeartbeats 8000000 in
theorem oneW4 (hn : n0 ≤ 200) {A : Option Addr} {m cap k : Nat} {wr : World} (hm : m ≤ n0 + 3 * k) (hJ : Heap w0 wr (HP.slw (.slice A m cap) 7 m (rowsC (B ++ uptoL wE k)) :: HP.slw (.slice (some ⟨gk, 0, none⟩) 8 8) 1 8 ksE :: L)) (hlt : k < 8) (Q0 : Exit → Act → World → Prop) (c0 c2 c3 c4 c5 c8 c9 yX yY yZ ya yb yc yd ye yf yg yh yi yj yk yl ym yn yo yp yq yr yt yu yv yw z0 z2 z3 z4 z6 z7 z8 z9 zA zB zC zD zE zF zG zH zI zJ zK zL zM zN zO zP zQ zR zS zT zU zV zW zX zY x0 x1 x2 x3 x4 x5 x6 x7 x8 x9 xA xB xC xD xE xF xG xH xI xJ xK xL xM xN xO xP xQ xR xS xT xU xV xW xX xY xZ xa xb xc xd xe xf xg xh xi xj xk xl xm xn xo xp xq xr xt xu xv xw y0 y1 y2 y3 y4 y5 y6 y7 y8 y9 yA yB yC yD yE yF yG yH yI yJ yK yL yM yN yO yP yQ yR yS yT yU yV yW zc zd ze zf zg zh zi zj zk zl zm zn zo zp zq zr zt zu zv zw q0 q1 q2 q3 q4 q5 q6 q7 q8 q9 qA qB zZ za zb : Value) :
    Code.wp Try.prog bodyW4 (Exit.then (fun a' w'' => WIw4 c0 c2 c3 c4 c5 c8 c9 yX yY yZ ya yb yc yd ye yf yg yh yi yj yk yl ym yn yo yp yq yr yt yu yv yw z0 z2 z3 z4 z6 z7 z8 z9 zA zB zC zD zE zF zG zH zI zJ zK zL zM zN zO zP zQ zR zS zT zU zV zW zX zY x0 x1 x2 x3 x4 x5 x6 x7 x8 x9 xA xB xC xD xE xF xG xH xI xJ xK xL xM xN xO xP xQ xR xS xT xU xV xW xX xY xZ xa xb xc xd xe xf xg xh xi xj xk xl xm xn xo xp xq xr xt xu xv xw y0 y1 y2 y3 y4 y5 y6 y7 y8 y9 yA yB yC yD yE yF yG yH yI yJ yK yL yM yN yO yP yQ yR yS yT yU yV yW w0 L B n0 gk a' w'' ∧ WmuW4 8 a' w'' < 8 - k) Q0) ⟨#[c0, .slice A m cap, c2, c3, c4, c5, .slice (some ⟨gk, 0, none⟩) 8 8, .int .i64 (k : Int), c8, c9, yX, yY, yZ, ya, yb, yc, yd, ye, yf, yg, yh, yi, yj, yk, yl, ym, yn, yo, yp, yq, yr, yt, yu, yv, yw, z0, z2, z3, z4, z6, z7, z8, z9, zA, zB, zC, zD, zE, zF, zG, zH, zI, zJ, zK, zL, zM, zN, zO, zP, zQ, zR, zS, zT, zU, zV, zW, zX, zY, zc, zd, ze, zf, zg, zh, zi, zj, zk, zl, zm, zn, zo, zp, zq, zr, zt, zu, zv, zw, q0, q1, q2, q3, q4, q5, q6, q7, q8, q9, qA, qB, zZ, za, zb, x0, x1, x2, x3, x4, x5, x6, x7, x8, x9, xA, xB, xC, xD, xE, xF, xG, xH, xI, xJ, xK, xL, xM, xN, xO, xP, xQ, xR, xS, xT, xU, xV, xW, xX, xY, xZ, xa, xb, xc, xd, xe, xf, xg, xh, xi, xj, xk, xl, xm, xn, xo, xp, xq, xr, xt, xu, xv, xw, y0, y1, y2, y3, y4, y5, y6, y7, y8, y9, yA, yB, yC, yD, yE, yF, yG, yH, yI, yJ, yK, yL, yM, yN, yO, yP, yQ, yR, yS, yT, yU, yV, yW], []⟩ wr := by
  conv => arg 2; whnf
  have HJ := hide hJ
  clear hJ
  obtain ⟨i1, hi1, hz0, hz1, hz2⟩ := info_parts info49
  have e1 : IntKind.u32.wrap (k : Int) = (k : Int) := by rw [IntKind.wrap_u32]; omega
  have CEH := hide (fun w9 M (h : Heap w0 w9 (M :: HP.slw (.slice (some ⟨gk, 0, none⟩) 8 8) 1 8 ksE :: L)) => ksE_at hlt h)
  obtain ⟨q, hq⟩ : ∃ q, decide (k = 1 ∨ k = 5) = q := ⟨_, rfl⟩
  have HQ := hide hq
  clear hq
  go_upto_region 19 with fail
  go_cut [77] from 68 to 102 (fun s77 wx => s77 = .bool (!q) ∧ wx = wr)
  case first =>
    by_cases h1 : k = 1
    · have z1 : ((k : Int) != 1) = false := by simp [h1]
      have HW := hide (show q = true by rw [← unhide HQ]; exact decide_eq_true (.inl h1))
      clear h1
      go_wp2
      go_meet
      exact ⟨by rw [unhide HW]; rfl, rfl⟩
    · have z1 : ((k : Int) != 1) = true := by simp; omega
      by_cases h5 : k = 5
      · have z5 : ((k : Int) != 5) = false := by simp [h5]
        have HW := hide (show q = true by rw [← unhide HQ]; exact decide_eq_true (.inr h5))
        clear h1 h5
        go_wp2
        go_meet
        exact ⟨by rw [unhide HW]; rfl, rfl⟩
      · have z5 : ((k : Int) != 5) = true := by simp; omega
        have HW := hide (show q = false by rw [← unhide HQ]; exact decide_eq_false (by omega))
        clear h1 h5
        go_wp2
        go_meet
        exact ⟨by rw [unhide HW]; rfl, rfl⟩
  case rest =>
  obtain ⟨rfl, hwc⟩ := hcut
  subst hwc
  go_upto_if 77 with fail
  go_cut [1] from 68 to 102 (fun s1 wx => ∃ (m' : Nat) (A : Option Addr) (cap : Nat), s1 = .slice A m' cap ∧ m' ≤ n0 + 3 * k + 1 ∧ Heap w0 wx (HP.slw s1 7 m' (rowsC (B ++ uptoL wE k ++ wE1 k)) :: HP.slw (.slice (some ⟨gk, 0, none⟩) 8 8) 1 8 ksE :: L))
  case first =>
    cases q with
    | true =>
      have HW := hide (show wE1 k = [] by unfold wE1; rw [if_pos (of_decide_eq_true (unhide HQ))])
      go_wp2
      go_meet
      exact ⟨m, A, cap, rfl, by omega, by rw [unhide HW, List.append_nil]; exact unhide HJ⟩
    | false =>
        have HW := hide (show wE1 k = [⟨28799, 19 + k * 4096, kE k, ⟨#[100, 49, 73, 61]⟩, 0, false, false⟩] by unfold wE1; rw [if_neg (of_decide_eq_false (unhide HQ))])
        obtain ⟨cE, hgl⟩ := unhide CEH _ _ (unhide HJ)
        obtain ⟨kd, hkd⟩ : ∃ x, kE k = x := ⟨_, rfl⟩
        have HKD := hide hkd
        rw [hkd] at cE
        clear hkd
        go_wp2_with fail
        refine (op3_w 19 (k : Int) (19 + (k : Int) * 4096) kd ⟨#[100, 49, 73, 61]⟩ _ (by decide) (by decide) (by omega) (by omega) rfl).mono ?_
        rintro r w5 ⟨rfl, g1⟩
        have H5 := hide ((unhide HJ).grown g1)
        clear g1 cE hgl
        go_wp2_with (at_builtin; refine wpList_append_sl (n := m) (m := 1) rfl _ _ 46 rfl 49 i1 _ 7 48 Try.underlying46 hi1 hz0 hz1 hz2 rfl rfl rfl ((unhide H5).alloc _).slw (sl_blk (n := 1) (sz := 7) (xs := rowsC [⟨28799, 19 + k * 4096, kd, ⟨#[100, 49, 73, 61]⟩, 0, false, false⟩]) (heap_new' w5 _) rfl) (rowsC_cells _) (by omega) (by omega) ?_; intro v' w7 hsl hgr hblk hsp; obtain ⟨A', cap', rfl, _⟩ := hsl.parts; have hA := hide (((unhide H5).alloc _).appendw hsl hgr hblk); clear hsl hgr hblk hsp; refine unhide ?_)
        refine hide ?_
        have HR := hide (show rowsC (B ++ uptoL wE k ++ wE1 k) = rowsC (B ++ uptoL wE k) ++ rowsC [⟨28799, 19 + k * 4096, kd, ⟨#[100, 49, 73, 61]⟩, 0, false, false⟩] by rw [unhide HW, unhide HKD, rowsC_app])
        go_wp2
        go_meet
        exact ⟨m + 1, A', cap', rfl, by omega, by rw [unhide HR]; exact unhide hA⟩
  case rest =>
    obtain ⟨m2, A, cap, rfl, hm2, hJ2⟩ := hcut
    have HJ2 := hide hJ2
    clear hJ2
    obtain ⟨cE, hgl⟩ := unhide CEH _ _ (unhide HJ2)
    obtain ⟨kd, hkd⟩ : ∃ x, kE k = x := ⟨_, rfl⟩
    have HKD := hide hkd
    rw [hkd] at cE
    clear hkd
    obtain ⟨b1, hb1⟩ : ∃ x : Int, 51 + (k : Int) * 4096 + 0 * 33554432 = x := ⟨_, rfl⟩
    obtain ⟨b2, hb2⟩ : ∃ x : Int, 51 + (k : Int) * 4096 + 1 * 33554432 = x := ⟨_, rfl⟩
    have HB := hide (And.intro hb1 hb2)
    clear hb1 hb2
    go_wp2_with fail
    refine (op7_w 51 (k : Int) 0 b1 kd ⟨#[100, 49, 50]⟩ _ (by decide) (by decide) (by omega) (by omega) (by decide) (by decide) (unhide HB).1).mono ?_
    rintro r w5 ⟨rfl, g1⟩
    have H5 := hide ((unhide HJ2).grown g1)
    clear g1 cE hgl HJ2
    go_wp2_with fail
    refine (op7_w 51 (k : Int) 1 b2 (23 + (k : Int)) ⟨#[100, 49, 50]⟩ _ (by decide) (by decide) (by omega) (by omega) (by decide) (by decide) (unhide HB).2).mono ?_
    rintro r w6 ⟨rfl, g1⟩
    have H6 := hide ((unhide H5).grown g1)
    clear g1 H5
    go_wp2_with (at_builtin; refine wpList_append_sl (n := m2) (m := 2) rfl _ _ 46 rfl 49 i1 _ 7 48 Try.underlying46 hi1 hz0 hz1 hz2 rfl rfl rfl ((unhide H6).alloc _).slw (sl_blk (n := 2) (sz := 7) (xs := rowsC [⟨4261441663, b1, kd, ⟨#[100, 49, 50]⟩, 0, false, false⟩, ⟨4261441663, b2, 23 + k, ⟨#[100, 49, 50]⟩, 0, false, false⟩]) (heap_new' w6 _) rfl) (rowsC_cells _) (by omega) (by omega) ?_; intro v' w7 hsl hgr hblk hsp; obtain ⟨A', cap', rfl, _⟩ := hsl.parts; have hA := hide (((unhide H6).alloc _).appendw hsl hgr hblk); clear hsl hgr hblk hsp; refine unhide ?_)
    refine hide ?_
    have HR := hide (show rowsC (B ++ uptoL wE (k + 1)) = rowsC (B ++ uptoL wE k ++ wE1 k) ++ rowsC [⟨4261441663, b1, kd, ⟨#[100, 49, 50]⟩, 0, false, false⟩, ⟨4261441663, b2, 23 + k, ⟨#[100, 49, 50]⟩, 0, false, false⟩] by
      rw [uptoL_succ, show wE k = wE1 k ++ wE2 k from rfl, ← List.append_assoc, ← List.append_assoc, rowsC_app _ (wE2 k), ← unhide HKD, ← (unhide HB).1, ← (unhide HB).2]
      rfl)
    go_wp2
    have e7 : (k : Int) + 1 = ((k + 1 : Nat) : Int) := rfl
    try rw [e7]
    refine ⟨⟨k + 1, A', m2 + 2, cap', ⟨by omega, by omega, by rw [unhide HR]; exact unhide hA⟩, ?_⟩, by simp [WmuW4, intOf]; omega⟩
    unfold FRW4
    refine ⟨_, _, _, _, _, _, _, _, _, _, _, _, _, _, _, _, _, _, _, _, _, _, _, _, _, _, _, _, _, _, _, _, _, _, _, rfl⟩
set_option maxRecDepth 1000000 in
set_option maxHeartbeats 8000000 in
theorem roundW4 (hn : n0 ≤ 200) (Q0 : Exit → Act → World → Prop) (c0 c2 c3 c4 c5 c8 c9 yX yY yZ ya yb yc yd ye yf yg yh yi yj yk yl ym yn yo yp yq yr yt yu yv yw z0 z2 z3 z4 z6 z7 z8 z9 zA zB zC zD zE zF zG zH zI zJ zK zL zM zN zO zP zQ zR zS zT zU zV zW zX zY x0 x1 x2 x3 x4 x5 x6 x7 x8 x9 xA xB xC xD xE xF xG xH xI xJ xK xL xM xN xO xP xQ xR xS xT xU xV xW xX xY xZ xa xb xc xd xe xf xg xh xi xj xk xl xm xn xo xp xq xr xt xu xv xw y0 y1 y2 y3 y4 y5 y6 y7 y8 y9 yA yB yC yD yE yF yG yH yI yJ yK yL yM yN yO yP yQ yR yS yT yU yV yW : Value) (hexit : ∀ a' w'', WXw4 c0 c2 c3 c4 c5 c8 c9 yX yY yZ ya yb yc yd ye yf yg yh yi yj yk yl ym yn yo yp yq yr yt yu yv yw z0 z2 z3 z4 z6 z7 z8 z9 zA zB zC zD zE zF zG zH zI zJ zK zL zM zN zO zP zQ zR zS zT zU zV zW zX zY x0 x1 x2 x3 x4 x5 x6 x7 x8 x9 xA xB xC xD xE xF xG xH xI xJ xK xL xM xN xO xP xQ xR xS xT xU xV xW xX xY xZ xa xb xc xd xe xf xg xh xi xj xk xl xm xn xo xp xq xr xt xu xv xw y0 y1 y2 y3 y4 y5 y6 y7 y8 y9 yA yB yC yD yE yF yG yH yI yJ yK yL yM yN yO yP yQ yR yS yT yU yV yW w0 L B n0 gk a' w'' → Q0 (.exit 6) a' w'') {a : Act} {wr : World} (hI : WIw4 c0 c2 c3 c4 c5 c8 c9 yX yY yZ ya yb yc yd ye yf yg yh yi yj yk yl ym yn yo yp yq yr yt yu yv yw z0 z2 z3 z4 z6 z7 z8 z9 zA zB zC zD zE zF zG zH zI zJ zK zL zM zN zO zP zQ zR zS zT zU zV zW zX zY x0 x1 x2 x3 x4 x5 x6 x7 x8 x9 xA xB xC xD xE xF xG xH xI xJ xK xL xM xN xO xP xQ xR xS xT xU xV xW xX xY xZ xa xb xc xd xe xf xg xh xi xj xk xl xm xn xo xp xq xr xt xu xv xw y0 y1 y2 y3 y4 y5 y6 y7 y8 y9 yA yB yC yD yE yF yG yH yI yJ yK yL yM yN yO yP yQ yR yS yT yU yV yW w0 L B n0 gk a wr) :
    Code.wp Try.prog bodyW4 (Exit.then (fun a' w'' => WIw4 c0 c2 c3 c4 c5 c8 c9 yX yY yZ ya yb yc yd ye yf yg yh yi yj yk yl ym yn yo yp yq yr yt yu yv yw z0 z2 z3 z4 z6 z7 z8 z9 zA zB zC zD zE zF zG zH zI zJ zK zL zM zN zO zP zQ zR zS zT zU zV zW zX zY x0 x1 x2 x3 x4 x5 x6 x7 x8 x9 xA xB xC xD xE xF xG xH xI xJ xK xL xM xN xO xP xQ xR xS xT xU xV xW xX xY xZ xa xb xc xd xe xf xg xh xi xj xk xl xm xn xo xp xq xr xt xu xv xw y0 y1 y2 y3 y4 y5 y6 y7 y8 y9 yA yB yC yD yE yF yG yH yI yJ yK yL yM yN yO yP yQ yR yS yT yU yV yW w0 L B n0 gk a' w'' ∧ WmuW4 8 a' w'' < WmuW4 8 a wr) Q0) a wr := by
  obtain ⟨k, A, m, cap, ⟨hk, hm, hJ⟩, hF⟩ := hI
  unfold FRW4 at hF
  obtain ⟨zc, hF⟩ := hF
  obtain ⟨zd, hF⟩ := hF
  obtain ⟨ze, hF⟩ := hF
  obtain ⟨zf, hF⟩ := hF
  obtain ⟨zg, hF⟩ := hF
  obtain ⟨zh, hF⟩ := hF
  obtain ⟨zi, hF⟩ := hF
  obtain ⟨zj, hF⟩ := hF
  obtain ⟨zk, hF⟩ := hF
  obtain ⟨zl, hF⟩ := hF
  obtain ⟨zm, hF⟩ := hF
  obtain ⟨zn, hF⟩ := hF
  obtain ⟨zo, hF⟩ := hF
  obtain ⟨zp, hF⟩ := hF
  obtain ⟨zq, hF⟩ := hF
  obtain ⟨zr, hF⟩ := hF
  obtain ⟨zt, hF⟩ := hF
  obtain ⟨zu, hF⟩ := hF
  obtain ⟨zv, hF⟩ := hF
  obtain ⟨zw, hF⟩ := hF
  obtain ⟨q0, hF⟩ := hF
  obtain ⟨q1, hF⟩ := hF
  obtain ⟨q2, hF⟩ := hF
  obtain ⟨q3, hF⟩ := hF
  obtain ⟨q4, hF⟩ := hF
  obtain ⟨q5, hF⟩ := hF
  obtain ⟨q6, hF⟩ := hF
  obtain ⟨q7, hF⟩ := hF
  obtain ⟨q8, hF⟩ := hF
  obtain ⟨q9, hF⟩ := hF
  obtain ⟨qA, hF⟩ := hF
  obtain ⟨qB, hF⟩ := hF
  obtain ⟨zZ, hF⟩ := hF
  obtain ⟨za, hF⟩ := hF
  obtain ⟨zb, hF⟩ := hF
  subst hF
  by_cases hlt : k < 8
  · exact oneW4 hn hm hJ hlt Q0 _ _ _ _ _ _ _ _ _ _ _ _ _ _ _ _ _ _ _ _ _ _ _ _ _ _ _ _ _ _ _ _ _ _ _ _ _ _ _ _ _ _ _ _ _ _ _ _ _ _ _ _ _ _ _ _ _ _ _ _ _ _ _ _ _ _ _ _ _ _ _ _ _ _ _ _ _ _ _ _ _ _ _ _ _ _ _ _ _ _ _ _ _ _ _ _ _ _ _ _ _ _ _ _ _ _ _ _ _ _ _ _ _ _ _ _ _ _ _ _ _ _ _ _ _ _ _ _ _ _ _ _ _ _ _ _ _ _ _ _ _ _ _ _ _ _ _ _ _ _ _ _ _ _ _ _ _ _ _ _ _ _ _ _ _ _ _ _ _ _ _ _ _ _ _ _ _ _ _ _ _ _ _ _ _ _ _ _ _ _ _
  · obtain rfl : k = 8 := by omega
    have HJ := hide hJ
    clear hJ
    conv => arg 2; whnf
    go_wp2
    refine ⟨A, m, cap, ⟨by omega, unhide HJ⟩, ?_⟩
    unfold FRW4
    refine ⟨_, _, _, _, _, _, _, _, _, _, _, _, _, _, _, _, _, _, _, _, _, _, _, _, _, _, _, _, _, _, _, _, _, _, _, rfl⟩
set_option maxRecDepth 1000000 in
theorem loopW4 (hn : n0 ≤ 200) (Q0 : Exit → Act → World → Prop) (c0 c2 c3 c4 c5 c8 c9 yX yY yZ ya yb yc yd ye yf yg yh yi yj yk yl ym yn yo yp yq yr yt yu yv yw z0 z2 z3 z4 z6 z7 z8 z9 zA zB zC zD zE zF zG zH zI zJ zK zL zM zN zO zP zQ zR zS zT zU zV zW zX zY x0 x1 x2 x3 x4 x5 x6 x7 x8 x9 xA xB xC xD xE xF xG xH xI xJ xK xL xM xN xO xP xQ xR xS xT xU xV xW xX xY xZ xa xb xc xd xe xf xg xh xi xj xk xl xm xn xo xp xq xr xt xu xv xw y0 y1 y2 y3 y4 y5 y6 y7 y8 y9 yA yB yC yD yE yF yG yH yI yJ yK yL yM yN yO yP yQ yR yS yT yU yV yW : Value) {A : Option Addr} {m cap : Nat} {wr : World} (hm : m ≤ n0) (hJ : Heap w0 wr (HP.slw (.slice A m cap) 7 m (rowsC B) :: HP.slw (.slice (some ⟨gk, 0, none⟩) 8 8) 1 8 ksE :: L)) (zc zd ze zf zg zh zi zj zk zl zm zn zo zp zq zr zt zu zv zw q0 q1 q2 q3 q4 q5 q6 q7 q8 q9 qA qB zZ za zb : Value) (hexit : ∀ a' w'', WXw4 c0 c2 c3 c4 c5 c8 c9 yX yY yZ ya yb yc yd ye yf yg yh yi yj yk yl ym yn yo yp yq yr yt yu yv yw z0 z2 z3 z4 z6 z7 z8 z9 zA zB zC zD zE zF zG zH zI zJ zK zL zM zN zO zP zQ zR zS zT zU zV zW zX zY x0 x1 x2 x3 x4 x5 x6 x7 x8 x9 xA xB xC xD xE xF xG xH xI xJ xK xL xM xN xO xP xQ xR xS xT xU xV xW xX xY xZ xa xb xc xd xe xf xg xh xi xj xk xl xm xn xo xp xq xr xt xu xv xw y0 y1 y2 y3 y4 y5 y6 y7 y8 y9 yA yB yC yD yE yF yG yH yI yJ yK yL yM yN yO yP yQ yR yS yT yU yV yW w0 L B n0 gk a' w'' → Q0 (.exit 6) a' w'') :
    Code.wp Try.prog (Code.loop bodyW4) Q0 ⟨#[c0, .slice A m cap, c2, c3, c4, c5, .slice (some ⟨gk, 0, none⟩) 8 8, .int .i64 ((0 : Nat) : Int), c8, c9, yX, yY, yZ, ya, yb, yc, yd, ye, yf, yg, yh, yi, yj, yk, yl, ym, yn, yo, yp, yq, yr, yt, yu, yv, yw, z0, z2, z3, z4, z6, z7, z8, z9, zA, zB, zC, zD, zE, zF, zG, zH, zI, zJ, zK, zL, zM, zN, zO, zP, zQ, zR, zS, zT, zU, zV, zW, zX, zY, zc, zd, ze, zf, zg, zh, zi, zj, zk, zl, zm, zn, zo, zp, zq, zr, zt, zu, zv, zw, q0, q1, q2, q3, q4, q5, q6, q7, q8, q9, qA, qB, zZ, za, zb, x0, x1, x2, x3, x4, x5, x6, x7, x8, x9, xA, xB, xC, xD, xE, xF, xG, xH, xI, xJ, xK, xL, xM, xN, xO, xP, xQ, xR, xS, xT, xU, xV, xW, xX, xY, xZ, xa, xb, xc, xd, xe, xf, xg, xh, xi, xj, xk, xl, xm, xn, xo, xp, xq, xr, xt, xu, xv, xw, y0, y1, y2, y3, y4, y5, y6, y7, y8, y9, yA, yB, yC, yD, yE, yF, yG, yH, yI, yJ, yK, yL, yM, yN, yO, yP, yQ, yR, yS, yT, yU, yV, yW], []⟩ wr := by
  refine wp_loop (WIw4 c0 c2 c3 c4 c5 c8 c9 yX yY yZ ya yb yc yd ye yf yg yh yi yj yk yl ym yn yo yp yq yr yt yu yv yw z0 z2 z3 z4 z6 z7 z8 z9 zA zB zC zD zE zF zG zH zI zJ zK zL zM zN zO zP zQ zR zS zT zU zV zW zX zY x0 x1 x2 x3 x4 x5 x6 x7 x8 x9 xA xB xC xD xE xF xG xH xI xJ xK xL xM xN xO xP xQ xR xS xT xU xV xW xX xY xZ xa xb xc xd xe xf xg xh xi xj xk xl xm xn xo xp xq xr xt xu xv xw y0 y1 y2 y3 y4 y5 y6 y7 y8 y9 yA yB yC yD yE yF yG yH yI yJ yK yL yM yN yO yP yQ yR yS yT yU yV yW w0 L B n0 gk) (WmuW4 8) ⟨0, A, m, cap, ⟨by omega, by omega, by rw [show uptoL wE 0 = [] from rfl, List.append_nil]; exact hJ⟩, ?_⟩ (fun a w'' hI => roundW4 hn Q0 c0 c2 c3 c4 c5 c8 c9 yX yY yZ ya yb yc yd ye yf yg yh yi yj yk yl ym yn yo yp yq yr yt yu yv yw z0 z2 z3 z4 z6 z7 z8 z9 zA zB zC zD zE zF zG zH zI zJ zK zL zM zN zO zP zQ zR zS zT zU zV zW zX zY x0 x1 x2 x3 x4 x5 x6 x7 x8 x9 xA xB xC xD xE xF xG xH xI xJ xK xL xM xN xO xP xQ xR xS xT xU xV xW xX xY xZ xa xb xc xd xe xf xg xh xi xj xk xl xm xn xo xp xq xr xt xu xv xw y0 y1 y2 y3 y4 y5 y6 y7 y8 y9 yA yB yC yD yE yF yG yH yI yJ yK yL yM yN yO yP yQ yR yS yT yU yV yW hexit hI)
  unfold FRW4
  exact ⟨zc, zd, ze, zf, zg, zh, zi, zj, zk, zl, zm, zn, zo, zp, zq, zr, zt, zu, zv, zw, q0, q1, q2, q3, q4, q5, q6, q7, q8, q9, qA, qB, zZ, za, zb, rfl⟩
end Go.Proofs.Ytopbdiekfhikmaa
namespace Go.Proofs.Ytopbdiekfhikmaa
open Go.RowKit
def kdS (k : Nat) : Int := if k = 0 then 15 else if k = 1 then 19 else 20
def f3S (k : Nat) : Int := if k = 0 then 1 else 5
def h7S (k : Nat) : Int := if k = 2 then 32 else 0
def ks8 : List Value := [.int .i64 15, .int .i64 19, .int .i64 20]
def ks9 : List Value := [.int .u32 1, .int .u32 5, .int .u32 5]
def ks10 : List Value := [.int .u32 0, .int .u32 0, .int .u32 32]
def wH1 (k : Nat) : List RowS := [⟨4227887231, 19 + f3S k * 4096 + h7S k * 33554432, kdS k, ⟨#[100, 49, 104, 61]⟩, 0, false, false⟩]
def wH2 (k : Nat) : List RowS := [⟨4261441663, 27 + f3S k * 4096 + h7S k * 33554432, kdS k, ⟨#[100, 49, 104, 61]⟩, 0, true, false⟩, ⟨4261441663, 59 + f3S k * 4096 + h7S k * 33554432, kdS k, ⟨#[100, 49, 50]⟩, 0, true, false⟩]
def wH (k : Nat) : List RowS := wH1 k ++ wH2 k
theorem slw_at {w0 w : World} {L : List HP} {g n k : Nat} {xs : List Value} {x : Value} (h : Heap w0 w (HP.slw (.slice (some ⟨g, 0, none⟩) n n) 1 n xs :: L)) (hx : xs[k]? = some x) : w.cell? ⟨g, k, none⟩ = some x := by
  have h1 := h.slw.cells_at rfl k _ hx
  have e : (⟨g, 0, none⟩ : Addr).add k = ⟨g, k, none⟩ := by simp [Addr.add]; omega
  rwa [e] at h1
theorem sh_at {w0 w9 : World} {M : HP} {L : List HP} {g8 g9 g10 k : Nat} (hk : k < 3) (h : Heap w0 w9 (M :: HP.slw (.slice (some ⟨g8, 0, none⟩) 3 3) 1 3 ks8 :: HP.slw (.slice (some ⟨g9, 0, none⟩) 3 3) 1 3 ks9 :: HP.slw (.slice (some ⟨g10, 0, none⟩) 3 3) 1 3 ks10 :: L)) : w9.cell? ⟨g8, k, none⟩ = some (.int .i64 (kdS k)) ∧ w9.cell? ⟨g9, k, none⟩ = some (.int .u32 (f3S k)) ∧ w9.cell? ⟨g10, k, none⟩ = some (.int .u32 (h7S k)) := by
  have hc : k = 0 ∨ k = 1 ∨ k = 2 := by omega
  refine ⟨slw_at h.tail ?_, slw_at h.tail.tail ?_, slw_at h.tail.tail.tail ?_⟩ <;> (rcases hc with rfl | rfl | rfl <;> rfl)
theorem ix_at {P : Program} (t e : TypeId) (ht : P.underlying t = some (.slice e)) (hs : (P.info? e).map (·.size) = some 1) (g n c k : Nat) (h : k < n) (w : World) :
    (Instr.indexAt t (.slice (some ⟨g, 0, none⟩) n c) (.int .i64 (k : Int))).run P w = .ok (.pointer (some ⟨g, k, none⟩)) w := by
  have he : P.elem t = e := by simp [Program.elem, ht]
  rw [run_indexAt_slice w t ⟨g, 0, none⟩ n c .i64 k (by rw [ht, he])]
  cases hi : P.info? e with
  | none => rw [hi] at hs; cases hs
  | some i =>
    rw [hi] at hs
    have hs : i.size = 1 := by simpa using hs
    simp [he, sizeOf, typeInfo, hi, hs, h, Addr.add]
    omega
def loopsOfW7 : Code → List Code
  | .loop c => [c]
  | .seq a b => loopsOfW7 a ++ loopsOfW7 b
  | .block _ c => loopsOfW7 c
  | .scope c => loopsOfW7 c
  | .cond _ a b => loopsOfW7 a ++ loopsOfW7 b
  | _ => []
noncomputable def bodyW7 : Code := ((Try.f41.body.map loopsOfW7).getD []).getD 4 .skip
set_option maxRecDepth 1000000 in
def FRW7 (c0 c2 c3 c4 c5 c6 c7 xd xe xf xg xh xi xj xk xl xm xn xo xp xq xr xt xu xv xw y0 y1 y2 y3 y4 y5 y6 y7 y8 y9 yA yB yC yD yE yF yG yH yI yJ yK yL yM yN yO yP yQ yR yS yT yU yV yW yX yY yZ ya yb yc yd ye yf yg yh yi yj yk yl ym yn yo yp yq yr yt yu yv yw z0 z1 z2 z3 z4 z5 z6 z7 z8 z9 zA x0 x1 x2 x3 x4 x5 x6 x7 x8 x9 xA xB xC xD xE xF xG xH xI xJ xK xL xM xN xO xP xQ xR xS xT xU xV xW xX xY xZ xa xb xc : Value) (A : Option Addr) (m cap g8 g9 g10 k : Nat) (a : Act) : Prop := ∃ zB : Value, ∃ zC : Value, ∃ zD : Value, ∃ zE : Value, ∃ zF : Value, ∃ zG : Value, ∃ zH : Value, ∃ zI : Value, ∃ zJ : Value, ∃ zK : Value, ∃ zL : Value, ∃ zM : Value, ∃ zN : Value, ∃ zO : Value, ∃ zP : Value, ∃ zQ : Value, ∃ zR : Value, ∃ zS : Value, ∃ zT : Value, ∃ zU : Value, ∃ zV : Value, ∃ zW : Value, ∃ zX : Value, ∃ zY : Value, ∃ zZ : Value, ∃ za : Value, ∃ zb : Value, ∃ zc : Value, ∃ zd : Value, ∃ ze : Value, ∃ zf : Value, ∃ zg : Value, ∃ zh : Value, ∃ zi : Value, ∃ zj : Value, ∃ zk : Value, ∃ zl : Value, ∃ zm : Value, ∃ zn : Value, ∃ zo : Value, ∃ zp : Value, ∃ zq : Value, ∃ zr : Value, ∃ zt : Value, ∃ zu : Value, ∃ zv : Value, ∃ zw : Value, ∃ q0 : Value, ∃ q1 : Value, ∃ q2 : Value, ∃ q3 : Value, ∃ q4 : Value, ∃ q5 : Value, ∃ q6 : Value, ∃ q7 : Value, a = ⟨#[c0, .slice A m cap, c2, c3, c4, c5, c6, c7, .slice (some ⟨g8, 0, none⟩) 3 3, .slice (some ⟨g9, 0, none⟩) 3 3, .slice (some ⟨g10, 0, none⟩) 3 3, .int .i64 (k : Int), xd, xe, xf, xg, xh, xi, xj, xk, xl, xm, xn, xo, xp, xq, xr, xt, xu, xv, xw, y0, y1, y2, y3, y4, y5, y6, y7, y8, y9, yA, yB, yC, yD, yE, yF, yG, yH, yI, yJ, yK, yL, yM, yN, yO, yP, yQ, yR, yS, yT, yU, yV, yW, yX, yY, yZ, ya, yb, yc, yd, ye, yf, yg, yh, yi, yj, yk, yl, ym, yn, yo, yp, yq, yr, yt, yu, yv, yw, z0, z1, z2, z3, z4, z5, z6, z7, z8, z9, zA, x0, x1, x2, x3, x4, x5, x6, x7, x8, x9, xA, zB, zC, zD, zE, zF, zG, zH, zI, zJ, zK, zL, zM, zN, zO, zP, zQ, zR, zS, zT, zU, zV, zW, zX, zY, zZ, za, zb, zc, zd, ze, zf, zg, zh, zi, zj, zk, zl, zm, zn, zo, zp, zq, zr, zt, zu, zv, zw, q0, q1, q2, q3, q4, q5, q6, q7, xB, xC, xD, xE, xF, xG, xH, xI, xJ, xK, xL, xM, xN, xO, xP, xQ, xR, xS, xT, xU, xV, xW, xX, xY, xZ, xa, xb, xc], []⟩
def WIw7 (c0 c2 c3 c4 c5 c6 c7 xd xe xf xg xh xi xj xk xl xm xn xo xp xq xr xt xu xv xw y0 y1 y2 y3 y4 y5 y6 y7 y8 y9 yA yB yC yD yE yF yG yH yI yJ yK yL yM yN yO yP yQ yR yS yT yU yV yW yX yY yZ ya yb yc yd ye yf yg yh yi yj yk yl ym yn yo yp yq yr yt yu yv yw z0 z1 z2 z3 z4 z5 z6 z7 z8 z9 zA x0 x1 x2 x3 x4 x5 x6 x7 x8 x9 xA xB xC xD xE xF xG xH xI xJ xK xL xM xN xO xP xQ xR xS xT xU xV xW xX xY xZ xa xb xc : Value) (w0 : World) (L : List HP) (B : List RowS) (n0 g8 g9 g10 : Nat) (a : Act) (wr : World) : Prop := ∃ (k : Nat) (A : Option Addr) (m cap : Nat), (k ≤ 3 ∧ m ≤ n0 + 3 * k ∧ Heap w0 wr (HP.slw (.slice A m cap) 7 m (rowsC (B ++ uptoL wH (k))) :: HP.slw (.slice (some ⟨g8, 0, none⟩) 3 3) 1 3 ks8 :: HP.slw (.slice (some ⟨g9, 0, none⟩) 3 3) 1 3 ks9 :: HP.slw (.slice (some ⟨g10, 0, none⟩) 3 3) 1 3 ks10 :: L)) ∧ FRW7 c0 c2 c3 c4 c5 c6 c7 xd xe xf xg xh xi xj xk xl xm xn xo xp xq xr xt xu xv xw y0 y1 y2 y3 y4 y5 y6 y7 y8 y9 yA yB yC yD yE yF yG yH yI yJ yK yL yM yN yO yP yQ yR yS yT yU yV yW yX yY yZ ya yb yc yd ye yf yg yh yi yj yk yl ym yn yo yp yq yr yt yu yv yw z0 z1 z2 z3 z4 z5 z6 z7 z8 z9 zA x0 x1 x2 x3 x4 x5 x6 x7 x8 x9 xA xB xC xD xE xF xG xH xI xJ xK xL xM xN xO xP xQ xR xS xT xU xV xW xX xY xZ xa xb xc A m cap g8 g9 g10 k a
def WXw7 (c0 c2 c3 c4 c5 c6 c7 xd xe xf xg xh xi xj xk xl xm xn xo xp xq xr xt xu xv xw y0 y1 y2 y3 y4 y5 y6 y7 y8 y9 yA yB yC yD yE yF yG yH yI yJ yK yL yM yN yO yP yQ yR yS yT yU yV yW yX yY yZ ya yb yc yd ye yf yg yh yi yj yk yl ym yn yo yp yq yr yt yu yv yw z0 z1 z2 z3 z4 z5 z6 z7 z8 z9 zA x0 x1 x2 x3 x4 x5 x6 x7 x8 x9 xA xB xC xD xE xF xG xH xI xJ xK xL xM xN xO xP xQ xR xS xT xU xV xW xX xY xZ xa xb xc : Value) (w0 : World) (L : List HP) (B : List RowS) (n0 g8 g9 g10 : Nat) (a : Act) (wr : World) : Prop := ∃ (A : Option Addr) (m cap : Nat), (m ≤ n0 + 9 ∧ Heap w0 wr (HP.slw (.slice A m cap) 7 m (rowsC (B ++ uptoL wH (3))) :: HP.slw (.slice (some ⟨g8, 0, none⟩) 3 3) 1 3 ks8 :: HP.slw (.slice (some ⟨g9, 0, none⟩) 3 3) 1 3 ks9 :: HP.slw (.slice (some ⟨g10, 0, none⟩) 3 3) 1 3 ks10 :: L)) ∧ FRW7 c0 c2 c3 c4 c5 c6 c7 xd xe xf xg xh xi xj xk xl xm xn xo xp xq xr xt xu xv xw y0 y1 y2 y3 y4 y5 y6 y7 y8 y9 yA yB yC yD yE yF yG yH yI yJ yK yL yM yN yO yP yQ yR yS yT yU yV yW yX yY yZ ya yb yc yd ye yf yg yh yi yj yk yl ym yn yo yp yq yr yt yu yv yw z0 z1 z2 z3 z4 z5 z6 z7 z8 z9 zA x0 x1 x2 x3 x4 x5 x6 x7 x8 x9 xA xB xC xD xE xF xG xH xI xJ xK xL xM xN xO xP xQ xR xS xT xU xV xW xX xY xZ xa xb xc A m cap g8 g9 g10 3 a
def WmuW7 (K : Nat) (a : Act) (_ : World) : Nat := K - (intOf (a.tmps.getD 11 undef)).toNat
variable {w0 : World} {L : List HP} {B : List RowS} {n0 g8 g9 g10 : Nat}
set_option maxRecDepth 1000000 in
set_option maxHeartbeats 8000000 in
theorem oneW7 (hn : n0 ≤ 200) {A : Option Addr} {m cap k : Nat} {wr : World} (hm : m ≤ n0 + 3 * k) (hJ : Heap w0 wr (HP.slw (.slice A m cap) 7 m (rowsC (B ++ uptoL wH (k))) :: HP.slw (.slice (some ⟨g8, 0, none⟩) 3 3) 1 3 ks8 :: HP.slw (.slice (some ⟨g9, 0, none⟩) 3 3) 1 3 ks9 :: HP.slw (.slice (some ⟨g10, 0, none⟩) 3 3) 1 3 ks10 :: L)) (hlt : k < 3) (Q0 : Exit → Act → World → Prop) (c0 c2 c3 c4 c5 c6 c7 xd xe xf xg xh xi xj xk xl xm xn xo xp xq xr xt xu xv xw y0 y1 y2 y3 y4 y5 y6 y7 y8 y9 yA yB yC yD yE yF yG yH yI yJ yK yL yM yN yO yP yQ yR yS yT yU yV yW yX yY yZ ya yb yc yd ye yf yg yh yi yj yk yl ym yn yo yp yq yr yt yu yv yw z0 z1 z2 z3 z4 z5 z6 z7 z8 z9 zA x0 x1 x2 x3 x4 x5 x6 x7 x8 x9 xA xB xC xD xE xF xG xH xI xJ xK xL xM xN xO xP xQ xR xS xT xU xV xW xX xY xZ xa xb xc zB zC zD zE zF zG zH zI zJ zK zL zM zN zO zP zQ zR zS zT zU zV zW zX zY zZ za zb zc zd ze zf zg zh zi zj zk zl zm zn zo zp zq zr zt zu zv zw q0 q1 q2 q3 q4 q5 q6 q7 : Value) :
    Code.wp Try.prog bodyW7 (Exit.then (fun a' w'' => WIw7 c0 c2 c3 c4 c5 c6 c7 xd xe xf xg xh xi xj xk xl xm xn xo xp xq xr xt xu xv xw y0 y1 y2 y3 y4 y5 y6 y7 y8 y9 yA yB yC yD yE yF yG yH yI yJ yK yL yM yN yO yP yQ yR yS yT yU yV yW yX yY yZ ya yb yc yd ye yf yg yh yi yj yk yl ym yn yo yp yq yr yt yu yv yw z0 z1 z2 z3 z4 z5 z6 z7 z8 z9 zA x0 x1 x2 x3 x4 x5 x6 x7 x8 x9 xA xB xC xD xE xF xG xH xI xJ xK xL xM xN xO xP xQ xR xS xT xU xV xW xX xY xZ xa xb xc w0 L B n0 g8 g9 g10 a' w'' ∧ WmuW7 3 a' w'' < 3 - k) Q0) ⟨#[c0, .slice A m cap, c2, c3, c4, c5, c6, c7, .slice (some ⟨g8, 0, none⟩) 3 3, .slice (some ⟨g9, 0, none⟩) 3 3, .slice (some ⟨g10, 0, none⟩) 3 3, .int .i64 (k : Int), xd, xe, xf, xg, xh, xi, xj, xk, xl, xm, xn, xo, xp, xq, xr, xt, xu, xv, xw, y0, y1, y2, y3, y4, y5, y6, y7, y8, y9, yA, yB, yC, yD, yE, yF, yG, yH, yI, yJ, yK, yL, yM, yN, yO, yP, yQ, yR, yS, yT, yU, yV, yW, yX, yY, yZ, ya, yb, yc, yd, ye, yf, yg, yh, yi, yj, yk, yl, ym, yn, yo, yp, yq, yr, yt, yu, yv, yw, z0, z1, z2, z3, z4, z5, z6, z7, z8, z9, zA, x0, x1, x2, x3, x4, x5, x6, x7, x8, x9, xA, zB, zC, zD, zE, zF, zG, zH, zI, zJ, zK, zL, zM, zN, zO, zP, zQ, zR, zS, zT, zU, zV, zW, zX, zY, zZ, za, zb, zc, zd, ze, zf, zg, zh, zi, zj, zk, zl, zm, zn, zo, zp, zq, zr, zt, zu, zv, zw, q0, q1, q2, q3, q4, q5, q6, q7, xB, xC, xD, xE, xF, xG, xH, xI, xJ, xK, xL, xM, xN, xO, xP, xQ, xR, xS, xT, xU, xV, xW, xX, xY, xZ, xa, xb, xc], []⟩ wr := by
  conv => arg 2; whnf
  have Hsp_ : Hid (∀ g, spare (.slice A m cap) = some g → g < wr.heap.size) := hide fun g hg => hJ.slw.blk_lt (spare_blk hg)
  have HJ := hide hJ
  clear hJ
  obtain ⟨i1, hi1, hz0, hz1, hz2⟩ := info_parts info49
  have hc : k = 0 ∨ k = 1 ∨ k = 2 := by omega
  have F1 := hide (show ∀ w, (binOp .shl 22 (.int .u32 (f3S k)) (.int .u64 12)).run Try.prog w = .ok (.int .u32 (f3S k * 4096)) w by rcases hc with rfl | rfl | rfl <;> intro w <;> kernel_rfl)
  have F2 := hide (show ∀ w, (binOp .or 22 (.int .u32 19) (.int .u32 (f3S k * 4096))).run Try.prog w = .ok (.int .u32 (19 + f3S k * 4096)) w by rcases hc with rfl | rfl | rfl <;> intro w <;> kernel_rfl)
  have F3 := hide (show ∀ w, (binOp .shl 22 (.int .u32 (h7S k)) (.int .u64 25)).run Try.prog w = .ok (.int .u32 (h7S k * 33554432)) w by rcases hc with rfl | rfl | rfl <;> intro w <;> kernel_rfl)
  have F4 := hide (show ∀ w, (binOp .or 22 (.int .u32 (19 + f3S k * 4096)) (.int .u32 (h7S k * 33554432))).run Try.prog w = .ok (.int .u32 (19 + f3S k * 4096 + h7S k * 33554432)) w by rcases hc with rfl | rfl | rfl <;> intro w <;> kernel_rfl)
  have FAg8 := hide (fun w => (ix_at (P := Try.prog) 63 3 Try.underlying63 (by kernel_rfl) g8 3 3 k hlt w))
  have FAg9 := hide (fun w => (ix_at (P := Try.prog) 71 22 Try.underlying71 (by kernel_rfl) g9 3 3 k hlt w))
  have FAg10 := hide (fun w => (ix_at (P := Try.prog) 71 22 Try.underlying71 (by kernel_rfl) g10 3 3 k hlt w))
  have FB := hide (show 0 ≤ f3S k ∧ f3S k < 8 ∧ 0 ≤ h7S k ∧ h7S k < 128 by rcases hc with rfl | rfl | rfl <;> decide)
  clear hc
  go_wp2_with fail
  refine wp_region_XE 19 (fun fl_ w_ => wr.heap.size ≤ w_.heap.size ∧ (fl_ = false → Heap w0 w_ (HP.slw (.slice A m cap) 7 (m) (rowsC (B ++ uptoL wH k)) :: HP.slw (.slice (some ⟨g8, 0, none⟩) 3 3) 1 3 ks8 :: HP.slw (.slice (some ⟨g9, 0, none⟩) 3 3) 1 3 ks9 :: HP.slw (.slice (some ⟨g10, 0, none⟩) 3 3) 1 3 ks10 :: L)) ∧ ∃ M_, Heap w0 w_ (M_ :: HP.slw (.slice (some ⟨g8, 0, none⟩) 3 3) 1 3 ks8 :: HP.slw (.slice (some ⟨g9, 0, none⟩) 3 3) 1 3 ks9 :: HP.slw (.slice (some ⟨g10, 0, none⟩) 3 3) 1 3 ks10 :: L)) (fun i_ x_ y_ => match i_ with | 19 => x_.grownBy y_ (spare (.slice A m cap)) | _ => (∀ L_, Heap w0 x_ L_ → Heap w0 y_ L_) ∧ GN x_ y_) (fun k_ v_ w_ => match k_ with
      | 0 => v_ = .slice A m cap
      | 1 => v_ = .slice (some ⟨g9, 0, none⟩) 3 3
      | 2 => v_ = .int .i64 (k : Int)
      | 3 => v_ = .pointer (some ⟨g9, k, none⟩)
      | 4 => v_ = .int .u32 (f3S k)
      | 5 => v_ = .int .u32 (f3S k * 4096)
      | 6 => v_ = .int .u32 (19 + f3S k * 4096)
      | 7 => v_ = .slice (some ⟨g10, 0, none⟩) 3 3
      | 8 => v_ = .int .i64 (k : Int)
      | 9 => v_ = .pointer (some ⟨g10, k, none⟩)
      | 10 => v_ = .int .u32 (h7S k)
      | 11 => v_ = .int .u32 (h7S k * 33554432)
      | 12 => v_ = .int .u32 (19 + f3S k * 4096 + h7S k * 33554432)
      | 13 => v_ = .slice (some ⟨g8, 0, none⟩) 3 3
      | 14 => v_ = .int .i64 (k : Int)
      | 15 => v_ = .pointer (some ⟨g8, k, none⟩)
      | 16 => v_ = .int .i64 (kdS k)
      | 17 => v_ = .agg #[.int .u32 4227887231, .int .u32 (19 + f3S k * 4096 + h7S k * 33554432), .int .i64 (kdS k), .string ⟨#[100, 49, 104, 61]⟩, .int .i64 0, .bool false, .bool false]
      | 18 => ∃ kk : Nat, v_ = .slice (some ⟨kk, 0, none⟩) 1 1 ∧ wr.heap.size ≤ kk ∧ w_.heap[kk]? = some (.cells (rowsC (wH1 k)).toArray 49 (0, 0))
      | 19 => Heap w0 w_ (HP.slw v_ 7 (m + 1) (rowsC (B ++ uptoL wH k) ++ rowsC (wH1 k)) :: HP.slw (.slice (some ⟨g8, 0, none⟩) 3 3) 1 3 ks8 :: HP.slw (.slice (some ⟨g9, 0, none⟩) 3 3) 1 3 ks9 :: HP.slw (.slice (some ⟨g10, 0, none⟩) 3 3) 1 3 ks10 :: L)
      | _ => True) fol (by kernel_rfl) ?_ ?_ (by decide) (n := 20) rfl rfl rfl (by kernel_rfl) ?_ ?_
  · exact ⟨Nat.le_refl _, fun _ => (unhide HJ).drew, ⟨_, (unhide HJ).drew⟩⟩
  · intro i_ k_ v_ w_ w2_ hne h1 hg
    split at h1
    all_goals first
      | exact h1
      | (obtain ⟨kk, e_, q_, r_⟩ := h1; split at hg; exact ⟨kk, e_, q_, (World.grownBy.block hg kk (lt_of_heap' r_) (fun c_ => by have := unhide Hsp_ _ c_.symm; omega)).trans r_⟩; exact ⟨kk, e_, q_, hg.2.heap r_⟩)
      | (split at hg; exact absurd rfl hne; exact hg.1 _ h1)
  · intro vals
    show wpX _ _ _ _ _ _ _ 0 (_ :: _) _
    refine wpX_cons (xval (.slice A m cap) (fun _ => ⟨fun _ h_ => h_, GN.refl _⟩) (by decide) fun fl_ w_ hJ hd => ?_) ?_
    · exact ⟨by kernel_rfl, by kernel_rfl, rfl⟩
    refine wpX_cons (xval (.slice (some ⟨g9, 0, none⟩) 3 3) (fun _ => ⟨fun _ h_ => h_, GN.refl _⟩) (by decide) fun fl_ w_ hJ hd => ?_) ?_
    · exact ⟨by kernel_rfl, by kernel_rfl, rfl⟩
    refine wpX_cons (xval (.int .i64 (k : Int)) (fun _ => ⟨fun _ h_ => h_, GN.refl _⟩) (by decide) fun fl_ w_ hJ hd => ?_) ?_
    · exact ⟨by kernel_rfl, by kernel_rfl, rfl⟩
    refine wpX_cons (xop (Instr.indexAt 71 (.slice (some ⟨g9, 0, none⟩) 3 3) (.int .i64 (k : Int))) (.pointer (some ⟨g9, k, none⟩)) (fun _ => ⟨fun _ h_ => h_, GN.refl _⟩) (by decide) fun fl_ w_ hJ hd => ?_) ?_
    · have e1 : vals 1 = _ := hd 1 (by decide) (by kernel_rfl)
      have e2 : vals 2 = _ := hd 2 (by decide) (by kernel_rfl)
      rw [e1, e2]
      exact ⟨by kernel_rfl, by kernel_rfl, unhide FAg9 w_, rfl⟩
    refine wpX_cons (xop (Instr.loadAt 22 (.pointer (some ⟨g9, k, none⟩))) (.int .u32 (f3S k)) (fun _ => ⟨fun _ h_ => h_, GN.refl _⟩) (by decide) fun fl_ w_ hJ hd => ?_) ?_
    · have e3 : vals 3 = _ := hd 3 (by decide) (by kernel_rfl)
      rw [e3]
      obtain ⟨M_, hM_⟩ := hJ.2.2
      exact ⟨by kernel_rfl, by kernel_rfl, run_load1 (by kernel_rfl) ((sh_at hlt hM_).2.1), rfl⟩
    refine wpX_cons (xop (binOp .shl 22 (.int .u32 (f3S k)) (.int .u64 12)) (.int .u32 (f3S k * 4096)) (fun _ => ⟨fun _ h_ => h_, GN.refl _⟩) (by decide) fun fl_ w_ hJ hd => ?_) ?_
    · have e4 : vals 4 = _ := hd 4 (by decide) (by kernel_rfl)
      rw [e4]
      exact ⟨by kernel_rfl, by kernel_rfl, unhide F1 w_, rfl⟩
    refine wpX_cons (xop (binOp .or 22 (.int .u32 19) (.int .u32 (f3S k * 4096))) (.int .u32 (19 + f3S k * 4096)) (fun _ => ⟨fun _ h_ => h_, GN.refl _⟩) (by decide) fun fl_ w_ hJ hd => ?_) ?_
    · have e5 : vals 5 = _ := hd 5 (by decide) (by kernel_rfl)
      rw [e5]
      exact ⟨by kernel_rfl, by kernel_rfl, unhide F2 w_, rfl⟩
    refine wpX_cons (xval (.slice (some ⟨g10, 0, none⟩) 3 3) (fun _ => ⟨fun _ h_ => h_, GN.refl _⟩) (by decide) fun fl_ w_ hJ hd => ?_) ?_
    · exact ⟨by kernel_rfl, by kernel_rfl, rfl⟩
    refine wpX_cons (xval (.int .i64 (k : Int)) (fun _ => ⟨fun _ h_ => h_, GN.refl _⟩) (by decide) fun fl_ w_ hJ hd => ?_) ?_
    · exact ⟨by kernel_rfl, by kernel_rfl, rfl⟩
    refine wpX_cons (xop (Instr.indexAt 71 (.slice (some ⟨g10, 0, none⟩) 3 3) (.int .i64 (k : Int))) (.pointer (some ⟨g10, k, none⟩)) (fun _ => ⟨fun _ h_ => h_, GN.refl _⟩) (by decide) fun fl_ w_ hJ hd => ?_) ?_
    · have e7 : vals 7 = _ := hd 7 (by decide) (by kernel_rfl)
      have e8 : vals 8 = _ := hd 8 (by decide) (by kernel_rfl)
      rw [e7, e8]
      exact ⟨by kernel_rfl, by kernel_rfl, unhide FAg10 w_, rfl⟩
    refine wpX_cons (xop (Instr.loadAt 22 (.pointer (some ⟨g10, k, none⟩))) (.int .u32 (h7S k)) (fun _ => ⟨fun _ h_ => h_, GN.refl _⟩) (by decide) fun fl_ w_ hJ hd => ?_) ?_
    · have e9 : vals 9 = _ := hd 9 (by decide) (by kernel_rfl)
      rw [e9]
      obtain ⟨M_, hM_⟩ := hJ.2.2
      exact ⟨by kernel_rfl, by kernel_rfl, run_load1 (by kernel_rfl) ((sh_at hlt hM_).2.2), rfl⟩
    refine wpX_cons (xop (binOp .shl 22 (.int .u32 (h7S k)) (.int .u64 25)) (.int .u32 (h7S k * 33554432)) (fun _ => ⟨fun _ h_ => h_, GN.refl _⟩) (by decide) fun fl_ w_ hJ hd => ?_) ?_
    · have e10 : vals 10 = _ := hd 10 (by decide) (by kernel_rfl)
      rw [e10]
      exact ⟨by kernel_rfl, by kernel_rfl, unhide F3 w_, rfl⟩
    refine wpX_cons (xop (binOp .or 22 (.int .u32 (19 + f3S k * 4096)) (.int .u32 (h7S k * 33554432))) (.int .u32 (19 + f3S k * 4096 + h7S k * 33554432)) (fun _ => ⟨fun _ h_ => h_, GN.refl _⟩) (by decide) fun fl_ w_ hJ hd => ?_) ?_
    · have e6 : vals 6 = _ := hd 6 (by decide) (by kernel_rfl)
      have e11 : vals 11 = _ := hd 11 (by decide) (by kernel_rfl)
      rw [e6, e11]
      exact ⟨by kernel_rfl, by kernel_rfl, unhide F4 w_, rfl⟩
    refine wpX_cons (xval (.slice (some ⟨g8, 0, none⟩) 3 3) (fun _ => ⟨fun _ h_ => h_, GN.refl _⟩) (by decide) fun fl_ w_ hJ hd => ?_) ?_
    · exact ⟨by kernel_rfl, by kernel_rfl, rfl⟩
    refine wpX_cons (xval (.int .i64 (k : Int)) (fun _ => ⟨fun _ h_ => h_, GN.refl _⟩) (by decide) fun fl_ w_ hJ hd => ?_) ?_
    · exact ⟨by kernel_rfl, by kernel_rfl, rfl⟩
    refine wpX_cons (xop (Instr.indexAt 63 (.slice (some ⟨g8, 0, none⟩) 3 3) (.int .i64 (k : Int))) (.pointer (some ⟨g8, k, none⟩)) (fun _ => ⟨fun _ h_ => h_, GN.refl _⟩) (by decide) fun fl_ w_ hJ hd => ?_) ?_
    · have e13 : vals 13 = _ := hd 13 (by decide) (by kernel_rfl)
      have e14 : vals 14 = _ := hd 14 (by decide) (by kernel_rfl)
      rw [e13, e14]
      exact ⟨by kernel_rfl, by kernel_rfl, unhide FAg8 w_, rfl⟩
    refine wpX_cons (xop (Instr.loadAt 3 (.pointer (some ⟨g8, k, none⟩))) (.int .i64 (kdS k)) (fun _ => ⟨fun _ h_ => h_, GN.refl _⟩) (by decide) fun fl_ w_ hJ hd => ?_) ?_
    · have e15 : vals 15 = _ := hd 15 (by decide) (by kernel_rfl)
      rw [e15]
      obtain ⟨M_, hM_⟩ := hJ.2.2
      exact ⟨by kernel_rfl, by kernel_rfl, run_load1 (by kernel_rfl) ((sh_at hlt hM_).1), rfl⟩
    refine wpX_cons (xval (.agg #[.int .u32 4227887231, .int .u32 (19 + f3S k * 4096 + h7S k * 33554432), .int .i64 (kdS k), .string ⟨#[100, 49, 104, 61]⟩, .int .i64 0, .bool false, .bool false]) (fun _ => ⟨fun _ h_ => h_, GN.refl _⟩) (by decide) fun fl_ w_ hJ hd => ?_) ?_
    · have e12 : vals 12 = _ := hd 12 (by decide) (by kernel_rfl)
      have e16 : vals 16 = _ := hd 16 (by decide) (by kernel_rfl)
      rw [e12, e16]
      exact ⟨by kernel_rfl, by kernel_rfl, rfl⟩
    refine wpX_cons (xmake (by decide) fun fl_ w_ hJ hd => ?_) ?_
    · have e17 : vals 17 = _ := hd 17 (by decide) (by kernel_rfl)
      rw [e17]
      exact ⟨by kernel_rfl, _, w_.alloc (.cells (rowsC (wH1 k)).toArray 49), (by kernel_rfl : _ = Result.ok (Next.value (.slice (some ⟨w_.heap.size, 0, none⟩) 1 1)) _), ⟨Nat.le_trans hJ.1 (by simp), fun h_ => (hJ.2.1 h_).alloc _, hJ.2.2.imp fun _ h_ => h_.alloc _⟩, ⟨fun _ h_ => h_.alloc _, (GN.refl _).alloc _⟩, w_.heap.size, rfl, hJ.1, heap_new' w_ _⟩
    refine wpX_cons (xevent rfl fun w_ hJ hd => ?_) wpX_nil
    · have e0 : vals 0 = _ := hd 0 (by decide) (by kernel_rfl)
      have e18 : ∃ kk : Nat, (vals 18) = .slice (some ⟨kk, 0, none⟩) 1 1 ∧ wr.heap.size ≤ kk ∧ w_.heap[kk]? = some (.cells (rowsC (wH1 k)).toArray 49 (0, 0)) := hd 18 (by decide) (by kernel_rfl)
      rw [e0]
      obtain ⟨kk, e_, q_, r_⟩ := e18
      rw [e_]
      have hB_ := hJ.2.1 rfl
      obtain ⟨v', w', hr_, hsl_, hgr_, hblk_, _⟩ := run_append_sl (P := Try.prog) w_ 46 46 49 i1 _ 7 48 Try.underlying46 hi1 hz0 hz1 hz2 rfl hB_.slw (sl_blk (n := 1) (sz := 7) (xs := rowsC (wH1 k)) r_ rfl) (rowsC_cells _) (by omega) (by omega)
      have hA_ := hB_.appendw hsl_ hgr_ hblk_
      exact ⟨by kernel_rfl, v', w', Eq.trans (b := Sem.run Try.prog (do let r ← Builtin.append_ #[46, 46] 46 #[.slice A m cap, .slice (some ⟨kk, 0, none⟩) 1 1]; pure (Next.value r)) w_) (by kernel_rfl) (run_val hr_), ⟨Nat.le_trans hJ.1 hgr_.size, fun h_ => (by cases h_), ⟨_, hA_⟩⟩, hgr_, hA_⟩
  · intro vals w_ hJ hf
    have e0 : vals 0 = _ := hf 0 (by decide)
    have e1 : vals 1 = _ := hf 1 (by decide)
    have e2 : vals 2 = _ := hf 2 (by decide)
    have e3 : vals 3 = _ := hf 3 (by decide)
    have e4 : vals 4 = _ := hf 4 (by decide)
    have e5 : vals 5 = _ := hf 5 (by decide)
    have e6 : vals 6 = _ := hf 6 (by decide)
    have e7 : vals 7 = _ := hf 7 (by decide)
    have e8 : vals 8 = _ := hf 8 (by decide)
    have e9 : vals 9 = _ := hf 9 (by decide)
    have e10 : vals 10 = _ := hf 10 (by decide)
    have e11 : vals 11 = _ := hf 11 (by decide)
    have e12 : vals 12 = _ := hf 12 (by decide)
    have e13 : vals 13 = _ := hf 13 (by decide)
    have e14 : vals 14 = _ := hf 14 (by decide)
    have e15 : vals 15 = _ := hf 15 (by decide)
    have e16 : vals 16 = _ := hf 16 (by decide)
    have e17 : vals 17 = _ := hf 17 (by decide)
    have e19 : Heap w0 w_ (HP.slw (vals 19) 7 (m + 1) (rowsC (B ++ uptoL wH k) ++ rowsC (wH1 k)) :: HP.slw (.slice (some ⟨g8, 0, none⟩) 3 3) 1 3 ks8 :: HP.slw (.slice (some ⟨g9, 0, none⟩) 3 3) 1 3 ks9 :: HP.slw (.slice (some ⟨g10, 0, none⟩) 3 3) 1 3 ks10 :: L) := hf 19 (by decide)
    show Oper.wp _ (Oper.mk _ _ _ _ _ _) (fillG vals 0 (_ :: _ :: _ :: _ :: _ :: _ :: _ :: _ :: _ :: _ :: _ :: _ :: _ :: _ :: _ :: _ :: _ :: _ :: _ :: _ :: []) _) _ _ _
    simp only [fillG, Nat.zero_add, Nat.reduceAdd, e0, e1, e2, e3, e4, e5, e6, e7, e8, e9, e10, e11, e12, e13, e14, e15, e16, e17, Act.put, List.setIfInBounds_toArray, List.set_cons_succ, List.set_cons_zero]
    clear e0 e1 e2 e3 e4 e5 e6 e7 e8 e9 e10 e11 e12 e13 e14 e15 e16 e17 hf
    generalize vals 18 = v18 at *
    generalize vals 19 = v19 at *
    refine wp_last_value (v := v19) (w' := w_) (by kernel_rfl) ?_
    simp only [Act.put, List.setIfInBounds_toArray, List.set_cons_succ, List.set_cons_zero]
    obtain ⟨A', cap', rfl, _⟩ := e19.slw.parts
    rw [← rowsC_app] at e19
    have hm1 : m + 1 ≤ n0 + 3 * k + 1 := by omega
    clear hJ Hsp_ HJ hm
    revert e19 hm1
    generalize m + 1 = m1
    intro e19 hm1
    generalize w_ = wr1 at *
    have Hsp_ : Hid (∀ g, spare (.slice A' m1 cap') = some g → g < wr1.heap.size) := hide fun g hg => e19.slw.blk_lt (spare_blk hg)
    have HJ := hide e19
    clear e19
    go_wp2_with fail
    refine wp_region_XE 30 (fun fl_ w_ => wr1.heap.size ≤ w_.heap.size ∧ (fl_ = false → Heap w0 w_ (HP.slw (.slice A' m1 cap') 7 (m1) (rowsC (B ++ uptoL wH k ++ wH1 k)) :: HP.slw (.slice (some ⟨g8, 0, none⟩) 3 3) 1 3 ks8 :: HP.slw (.slice (some ⟨g9, 0, none⟩) 3 3) 1 3 ks9 :: HP.slw (.slice (some ⟨g10, 0, none⟩) 3 3) 1 3 ks10 :: L)) ∧ ∃ M_, Heap w0 w_ (M_ :: HP.slw (.slice (some ⟨g8, 0, none⟩) 3 3) 1 3 ks8 :: HP.slw (.slice (some ⟨g9, 0, none⟩) 3 3) 1 3 ks9 :: HP.slw (.slice (some ⟨g10, 0, none⟩) 3 3) 1 3 ks10 :: L)) (fun i_ x_ y_ => match i_ with | 30 => x_.grownBy y_ (spare (.slice A' m1 cap')) | _ => (∀ L_, Heap w0 x_ L_ → Heap w0 y_ L_) ∧ GN x_ y_) (fun k_ v_ w_ => match k_ with
        | 0 => v_ = .slice A' m1 cap'
        | 1 => v_ = .slice (some ⟨g9, 0, none⟩) 3 3
        | 2 => v_ = .int .i64 (k : Int)
        | 3 => v_ = .pointer (some ⟨g9, k, none⟩)
        | 4 => v_ = .int .u32 (f3S k)
        | 5 => v_ = .slice (some ⟨g10, 0, none⟩) 3 3
        | 6 => v_ = .int .i64 (k : Int)
        | 7 => v_ = .pointer (some ⟨g10, k, none⟩)
        | 8 => v_ = .int .u32 (h7S k)
        | 9 => v_ = .slice (some ⟨g8, 0, none⟩) 3 3
        | 10 => v_ = .int .i64 (k : Int)
        | 11 => v_ = .pointer (some ⟨g8, k, none⟩)
        | 12 => v_ = .int .i64 (kdS k)
        | 13 => v_ = .agg #[.int .u32 4261441663, .int .u32 (27 + f3S k * 4096 + h7S k * 33554432), .int .i64 (kdS k), .string ⟨#[100, 49, 104, 61]⟩, .int .i64 0, .bool false, .bool false]
        | 14 => v_ = .agg #[.int .u32 4261441663, .int .u32 (27 + f3S k * 4096 + h7S k * 33554432), .int .i64 (kdS k), .string ⟨#[100, 49, 104, 61]⟩, .int .i64 0, .bool true, .bool false]
        | 15 => v_ = .slice (some ⟨g9, 0, none⟩) 3 3
        | 16 => v_ = .int .i64 (k : Int)
        | 17 => v_ = .pointer (some ⟨g9, k, none⟩)
        | 18 => v_ = .int .u32 (f3S k)
        | 19 => v_ = .slice (some ⟨g10, 0, none⟩) 3 3
        | 20 => v_ = .int .i64 (k : Int)
        | 21 => v_ = .pointer (some ⟨g10, k, none⟩)
        | 22 => v_ = .int .u32 (h7S k)
        | 23 => v_ = .slice (some ⟨g8, 0, none⟩) 3 3
        | 24 => v_ = .int .i64 (k : Int)
        | 25 => v_ = .pointer (some ⟨g8, k, none⟩)
        | 26 => v_ = .int .i64 (kdS k)
        | 27 => v_ = .agg #[.int .u32 4261441663, .int .u32 (59 + f3S k * 4096 + h7S k * 33554432), .int .i64 (kdS k), .string ⟨#[100, 49, 50]⟩, .int .i64 0, .bool false, .bool false]
        | 28 => v_ = .agg #[.int .u32 4261441663, .int .u32 (59 + f3S k * 4096 + h7S k * 33554432), .int .i64 (kdS k), .string ⟨#[100, 49, 50]⟩, .int .i64 0, .bool true, .bool false]
        | 29 => ∃ kk : Nat, v_ = .slice (some ⟨kk, 0, none⟩) 2 2 ∧ wr1.heap.size ≤ kk ∧ w_.heap[kk]? = some (.cells (rowsC (wH2 k)).toArray 49 (0, 0))
        | 30 => Heap w0 w_ (HP.slw v_ 7 (m1 + 2) (rowsC (B ++ uptoL wH k ++ wH1 k) ++ rowsC (wH2 k)) :: HP.slw (.slice (some ⟨g8, 0, none⟩) 3 3) 1 3 ks8 :: HP.slw (.slice (some ⟨g9, 0, none⟩) 3 3) 1 3 ks9 :: HP.slw (.slice (some ⟨g10, 0, none⟩) 3 3) 1 3 ks10 :: L)
        | _ => True) fol (by kernel_rfl) ?_ ?_ (by decide) (n := 31) rfl rfl rfl (by kernel_rfl) ?_ ?_
    · exact ⟨Nat.le_refl _, fun _ => (unhide HJ).drew, ⟨_, (unhide HJ).drew⟩⟩
    · intro i_ k_ v_ w_ w2_ hne h1 hg
      split at h1
      all_goals first
        | exact h1
        | (obtain ⟨kk, e_, q_, r_⟩ := h1; split at hg; exact ⟨kk, e_, q_, (World.grownBy.block hg kk (lt_of_heap' r_) (fun c_ => by have := unhide Hsp_ _ c_.symm; omega)).trans r_⟩; exact ⟨kk, e_, q_, hg.2.heap r_⟩)
        | (split at hg; exact absurd rfl hne; exact hg.1 _ h1)
    · intro vals
      show wpX _ _ _ _ _ _ _ 0 (_ :: _) _
      refine wpX_cons (xval (.slice A' m1 cap') (fun _ => ⟨fun _ h_ => h_, GN.refl _⟩) (by decide) fun fl_ w_ hJ hd => ?_) ?_
      · exact ⟨by kernel_rfl, by kernel_rfl, rfl⟩
      refine wpX_cons (xval (.slice (some ⟨g9, 0, none⟩) 3 3) (fun _ => ⟨fun _ h_ => h_, GN.refl _⟩) (by decide) fun fl_ w_ hJ hd => ?_) ?_
      · exact ⟨by kernel_rfl, by kernel_rfl, rfl⟩
      refine wpX_cons (xval (.int .i64 (k : Int)) (fun _ => ⟨fun _ h_ => h_, GN.refl _⟩) (by decide) fun fl_ w_ hJ hd => ?_) ?_
      · exact ⟨by kernel_rfl, by kernel_rfl, rfl⟩
      refine wpX_cons (xop (Instr.indexAt 71 (.slice (some ⟨g9, 0, none⟩) 3 3) (.int .i64 (k : Int))) (.pointer (some ⟨g9, k, none⟩)) (fun _ => ⟨fun _ h_ => h_, GN.refl _⟩) (by decide) fun fl_ w_ hJ hd => ?_) ?_
      · have e1 : vals 1 = _ := hd 1 (by decide) (by kernel_rfl)
        have e2 : vals 2 = _ := hd 2 (by decide) (by kernel_rfl)
        rw [e1, e2]
        exact ⟨by kernel_rfl, by kernel_rfl, unhide FAg9 w_, rfl⟩
      refine wpX_cons (xop (Instr.loadAt 22 (.pointer (some ⟨g9, k, none⟩))) (.int .u32 (f3S k)) (fun _ => ⟨fun _ h_ => h_, GN.refl _⟩) (by decide) fun fl_ w_ hJ hd => ?_) ?_
      · have e3 : vals 3 = _ := hd 3 (by decide) (by kernel_rfl)
        rw [e3]
        obtain ⟨M_, hM_⟩ := hJ.2.2
        exact ⟨by kernel_rfl, by kernel_rfl, run_load1 (by kernel_rfl) ((sh_at hlt hM_).2.1), rfl⟩
      refine wpX_cons (xval (.slice (some ⟨g10, 0, none⟩) 3 3) (fun _ => ⟨fun _ h_ => h_, GN.refl _⟩) (by decide) fun fl_ w_ hJ hd => ?_) ?_
      · exact ⟨by kernel_rfl, by kernel_rfl, rfl⟩
      refine wpX_cons (xval (.int .i64 (k : Int)) (fun _ => ⟨fun _ h_ => h_, GN.refl _⟩) (by decide) fun fl_ w_ hJ hd => ?_) ?_
      · exact ⟨by kernel_rfl, by kernel_rfl, rfl⟩
      refine wpX_cons (xop (Instr.indexAt 71 (.slice (some ⟨g10, 0, none⟩) 3 3) (.int .i64 (k : Int))) (.pointer (some ⟨g10, k, none⟩)) (fun _ => ⟨fun _ h_ => h_, GN.refl _⟩) (by decide) fun fl_ w_ hJ hd => ?_) ?_
      · have e5 : vals 5 = _ := hd 5 (by decide) (by kernel_rfl)
        have e6 : vals 6 = _ := hd 6 (by decide) (by kernel_rfl)
        rw [e5, e6]
        exact ⟨by kernel_rfl, by kernel_rfl, unhide FAg10 w_, rfl⟩
      refine wpX_cons (xop (Instr.loadAt 22 (.pointer (some ⟨g10, k, none⟩))) (.int .u32 (h7S k)) (fun _ => ⟨fun _ h_ => h_, GN.refl _⟩) (by decide) fun fl_ w_ hJ hd => ?_) ?_
      · have e7 : vals 7 = _ := hd 7 (by decide) (by kernel_rfl)
        rw [e7]
        obtain ⟨M_, hM_⟩ := hJ.2.2
        exact ⟨by kernel_rfl, by kernel_rfl, run_load1 (by kernel_rfl) ((sh_at hlt hM_).2.2), rfl⟩
      refine wpX_cons (xval (.slice (some ⟨g8, 0, none⟩) 3 3) (fun _ => ⟨fun _ h_ => h_, GN.refl _⟩) (by decide) fun fl_ w_ hJ hd => ?_) ?_
      · exact ⟨by kernel_rfl, by kernel_rfl, rfl⟩
      refine wpX_cons (xval (.int .i64 (k : Int)) (fun _ => ⟨fun _ h_ => h_, GN.refl _⟩) (by decide) fun fl_ w_ hJ hd => ?_) ?_
      · exact ⟨by kernel_rfl, by kernel_rfl, rfl⟩
      refine wpX_cons (xop (Instr.indexAt 63 (.slice (some ⟨g8, 0, none⟩) 3 3) (.int .i64 (k : Int))) (.pointer (some ⟨g8, k, none⟩)) (fun _ => ⟨fun _ h_ => h_, GN.refl _⟩) (by decide) fun fl_ w_ hJ hd => ?_) ?_
      · have e9 : vals 9 = _ := hd 9 (by decide) (by kernel_rfl)
        have e10 : vals 10 = _ := hd 10 (by decide) (by kernel_rfl)
        rw [e9, e10]
        exact ⟨by kernel_rfl, by kernel_rfl, unhide FAg8 w_, rfl⟩
      refine wpX_cons (xop (Instr.loadAt 3 (.pointer (some ⟨g8, k, none⟩))) (.int .i64 (kdS k)) (fun _ => ⟨fun _ h_ => h_, GN.refl _⟩) (by decide) fun fl_ w_ hJ hd => ?_) ?_
      · have e11 : vals 11 = _ := hd 11 (by decide) (by kernel_rfl)
        rw [e11]
        obtain ⟨M_, hM_⟩ := hJ.2.2
        exact ⟨by kernel_rfl, by kernel_rfl, run_load1 (by kernel_rfl) ((sh_at hlt hM_).1), rfl⟩
      refine wpX_cons (xcallm (by decide) 62 #[.int .u32 27, .int .u32 (f3S k), .int .u32 (h7S k), .int .i64 (kdS k), .string ⟨#[100, 49, 104, 61]⟩] fun fl_ w_ hJ hd => ?_) ?_
      · have e4 : vals 4 = _ := hd 4 (by decide) (by kernel_rfl)
        have e8 : vals 8 = _ := hd 8 (by decide) (by kernel_rfl)
        have e12 : vals 12 = _ := hd 12 (by decide) (by kernel_rfl)
        rw [e4, e8, e12]
        exact ⟨by kernel_rfl, by kernel_rfl, (op7_w 27 (f3S k) (h7S k) (27 + f3S k * 4096 + h7S k * 33554432) (kdS k) ⟨#[100, 49, 104, 61]⟩ w_ (by decide) (by decide) (unhide FB).1 (unhide FB).2.1 (unhide FB).2.2.1 (unhide FB).2.2.2 rfl).mono fun e_ w'' ⟨hr_, hg_⟩ => ⟨_, hr_, ⟨Nat.le_trans hJ.1 hg_.size, fun h_ => (hJ.2.1 h_).grown hg_, hJ.2.2.imp fun _ h_ => h_.grown hg_⟩, ⟨fun _ h_ => h_.grown hg_, hg_⟩, rfl⟩⟩
      refine wpX_cons (xcallm (by decide) 61 #[.agg #[.int .u32 4261441663, .int .u32 (27 + f3S k * 4096 + h7S k * 33554432), .int .i64 (kdS k), .string ⟨#[100, 49, 104, 61]⟩, .int .i64 0, .bool false, .bool false], .bool true, .bool false] fun fl_ w_ hJ hd => ?_) ?_
      · have e13 : vals 13 = _ := hd 13 (by decide) (by kernel_rfl)
        rw [e13]
        exact ⟨by kernel_rfl, by kernel_rfl, (worded_any ⟨4261441663, 27 + f3S k * 4096 + h7S k * 33554432, kdS k, ⟨#[100, 49, 104, 61]⟩, 0, false, false⟩ true false w_).mono fun e_ w'' ⟨hr_, hg_⟩ => ⟨_, hr_, ⟨Nat.le_trans hJ.1 hg_.size, fun h_ => (hJ.2.1 h_).grown hg_, hJ.2.2.imp fun _ h_ => h_.grown hg_⟩, ⟨fun _ h_ => h_.grown hg_, hg_⟩, rfl⟩⟩
      refine wpX_cons (xval (.slice (some ⟨g9, 0, none⟩) 3 3) (fun _ => ⟨fun _ h_ => h_, GN.refl _⟩) (by decide) fun fl_ w_ hJ hd => ?_) ?_
      · exact ⟨by kernel_rfl, by kernel_rfl, rfl⟩
      refine wpX_cons (xval (.int .i64 (k : Int)) (fun _ => ⟨fun _ h_ => h_, GN.refl _⟩) (by decide) fun fl_ w_ hJ hd => ?_) ?_
      · exact ⟨by kernel_rfl, by kernel_rfl, rfl⟩
      refine wpX_cons (xop (Instr.indexAt 71 (.slice (some ⟨g9, 0, none⟩) 3 3) (.int .i64 (k : Int))) (.pointer (some ⟨g9, k, none⟩)) (fun _ => ⟨fun _ h_ => h_, GN.refl _⟩) (by decide) fun fl_ w_ hJ hd => ?_) ?_
      · have e15 : vals 15 = _ := hd 15 (by decide) (by kernel_rfl)
        have e16 : vals 16 = _ := hd 16 (by decide) (by kernel_rfl)
        rw [e15, e16]
        exact ⟨by kernel_rfl, by kernel_rfl, unhide FAg9 w_, rfl⟩
      refine wpX_cons (xop (Instr.loadAt 22 (.pointer (some ⟨g9, k, none⟩))) (.int .u32 (f3S k)) (fun _ => ⟨fun _ h_ => h_, GN.refl _⟩) (by decide) fun fl_ w_ hJ hd => ?_) ?_
      · have e17 : vals 17 = _ := hd 17 (by decide) (by kernel_rfl)
        rw [e17]
        obtain ⟨M_, hM_⟩ := hJ.2.2
        exact ⟨by kernel_rfl, by kernel_rfl, run_load1 (by kernel_rfl) ((sh_at hlt hM_).2.1), rfl⟩
      refine wpX_cons (xval (.slice (some ⟨g10, 0, none⟩) 3 3) (fun _ => ⟨fun _ h_ => h_, GN.refl _⟩) (by decide) fun fl_ w_ hJ hd => ?_) ?_
      · exact ⟨by kernel_rfl, by kernel_rfl, rfl⟩
      refine wpX_cons (xval (.int .i64 (k : Int)) (fun _ => ⟨fun _ h_ => h_, GN.refl _⟩) (by decide) fun fl_ w_ hJ hd => ?_) ?_
      · exact ⟨by kernel_rfl, by kernel_rfl, rfl⟩
      refine wpX_cons (xop (Instr.indexAt 71 (.slice (some ⟨g10, 0, none⟩) 3 3) (.int .i64 (k : Int))) (.pointer (some ⟨g10, k, none⟩)) (fun _ => ⟨fun _ h_ => h_, GN.refl _⟩) (by decide) fun fl_ w_ hJ hd => ?_) ?_
      · have e19 : vals 19 = _ := hd 19 (by decide) (by kernel_rfl)
        have e20 : vals 20 = _ := hd 20 (by decide) (by kernel_rfl)
        rw [e19, e20]
        exact ⟨by kernel_rfl, by kernel_rfl, unhide FAg10 w_, rfl⟩
      refine wpX_cons (xop (Instr.loadAt 22 (.pointer (some ⟨g10, k, none⟩))) (.int .u32 (h7S k)) (fun _ => ⟨fun _ h_ => h_, GN.refl _⟩) (by decide) fun fl_ w_ hJ hd => ?_) ?_
      · have e21 : vals 21 = _ := hd 21 (by decide) (by kernel_rfl)
        rw [e21]
        obtain ⟨M_, hM_⟩ := hJ.2.2
        exact ⟨by kernel_rfl, by kernel_rfl, run_load1 (by kernel_rfl) ((sh_at hlt hM_).2.2), rfl⟩
      refine wpX_cons (xval (.slice (some ⟨g8, 0, none⟩) 3 3) (fun _ => ⟨fun _ h_ => h_, GN.refl _⟩) (by decide) fun fl_ w_ hJ hd => ?_) ?_
      · exact ⟨by kernel_rfl, by kernel_rfl, rfl⟩
      refine wpX_cons (xval (.int .i64 (k : Int)) (fun _ => ⟨fun _ h_ => h_, GN.refl _⟩) (by decide) fun fl_ w_ hJ hd => ?_) ?_
      · exact ⟨by kernel_rfl, by kernel_rfl, rfl⟩
      refine wpX_cons (xop (Instr.indexAt 63 (.slice (some ⟨g8, 0, none⟩) 3 3) (.int .i64 (k : Int))) (.pointer (some ⟨g8, k, none⟩)) (fun _ => ⟨fun _ h_ => h_, GN.refl _⟩) (by decide) fun fl_ w_ hJ hd => ?_) ?_
      · have e23 : vals 23 = _ := hd 23 (by decide) (by kernel_rfl)
        have e24 : vals 24 = _ := hd 24 (by decide) (by kernel_rfl)
        rw [e23, e24]
        exact ⟨by kernel_rfl, by kernel_rfl, unhide FAg8 w_, rfl⟩
      refine wpX_cons (xop (Instr.loadAt 3 (.pointer (some ⟨g8, k, none⟩))) (.int .i64 (kdS k)) (fun _ => ⟨fun _ h_ => h_, GN.refl _⟩) (by decide) fun fl_ w_ hJ hd => ?_) ?_
      · have e25 : vals 25 = _ := hd 25 (by decide) (by kernel_rfl)
        rw [e25]
        obtain ⟨M_, hM_⟩ := hJ.2.2
        exact ⟨by kernel_rfl, by kernel_rfl, run_load1 (by kernel_rfl) ((sh_at hlt hM_).1), rfl⟩
      refine wpX_cons (xcallm (by decide) 62 #[.int .u32 59, .int .u32 (f3S k), .int .u32 (h7S k), .int .i64 (kdS k), .string ⟨#[100, 49, 50]⟩] fun fl_ w_ hJ hd => ?_) ?_
      · have e18 : vals 18 = _ := hd 18 (by decide) (by kernel_rfl)
        have e22 : vals 22 = _ := hd 22 (by decide) (by kernel_rfl)
        have e26 : vals 26 = _ := hd 26 (by decide) (by kernel_rfl)
        rw [e18, e22, e26]
        exact ⟨by kernel_rfl, by kernel_rfl, (op7_w 59 (f3S k) (h7S k) (59 + f3S k * 4096 + h7S k * 33554432) (kdS k) ⟨#[100, 49, 50]⟩ w_ (by decide) (by decide) (unhide FB).1 (unhide FB).2.1 (unhide FB).2.2.1 (unhide FB).2.2.2 rfl).mono fun e_ w'' ⟨hr_, hg_⟩ => ⟨_, hr_, ⟨Nat.le_trans hJ.1 hg_.size, fun h_ => (hJ.2.1 h_).grown hg_, hJ.2.2.imp fun _ h_ => h_.grown hg_⟩, ⟨fun _ h_ => h_.grown hg_, hg_⟩, rfl⟩⟩
      refine wpX_cons (xcallm (by decide) 61 #[.agg #[.int .u32 4261441663, .int .u32 (59 + f3S k * 4096 + h7S k * 33554432), .int .i64 (kdS k), .string ⟨#[100, 49, 50]⟩, .int .i64 0, .bool false, .bool false], .bool true, .bool false] fun fl_ w_ hJ hd => ?_) ?_
      · have e27 : vals 27 = _ := hd 27 (by decide) (by kernel_rfl)
        rw [e27]
        exact ⟨by kernel_rfl, by kernel_rfl, (worded_any ⟨4261441663, 59 + f3S k * 4096 + h7S k * 33554432, kdS k, ⟨#[100, 49, 50]⟩, 0, false, false⟩ true false w_).mono fun e_ w'' ⟨hr_, hg_⟩ => ⟨_, hr_, ⟨Nat.le_trans hJ.1 hg_.size, fun h_ => (hJ.2.1 h_).grown hg_, hJ.2.2.imp fun _ h_ => h_.grown hg_⟩, ⟨fun _ h_ => h_.grown hg_, hg_⟩, rfl⟩⟩
      refine wpX_cons (xmake (by decide) fun fl_ w_ hJ hd => ?_) ?_
      · have e14 : vals 14 = _ := hd 14 (by decide) (by kernel_rfl)
        have e28 : vals 28 = _ := hd 28 (by decide) (by kernel_rfl)
        rw [e14, e28]
        exact ⟨by kernel_rfl, _, w_.alloc (.cells (rowsC (wH2 k)).toArray 49), (by kernel_rfl : _ = Result.ok (Next.value (.slice (some ⟨w_.heap.size, 0, none⟩) 2 2)) _), ⟨Nat.le_trans hJ.1 (by simp), fun h_ => (hJ.2.1 h_).alloc _, hJ.2.2.imp fun _ h_ => h_.alloc _⟩, ⟨fun _ h_ => h_.alloc _, (GN.refl _).alloc _⟩, w_.heap.size, rfl, hJ.1, heap_new' w_ _⟩
      refine wpX_cons (xevent rfl fun w_ hJ hd => ?_) wpX_nil
      · have e0 : vals 0 = _ := hd 0 (by decide) (by kernel_rfl)
        have e29 : ∃ kk : Nat, (vals 29) = .slice (some ⟨kk, 0, none⟩) 2 2 ∧ wr1.heap.size ≤ kk ∧ w_.heap[kk]? = some (.cells (rowsC (wH2 k)).toArray 49 (0, 0)) := hd 29 (by decide) (by kernel_rfl)
        rw [e0]
        obtain ⟨kk, e_, q_, r_⟩ := e29
        rw [e_]
        have hB_ := hJ.2.1 rfl
        obtain ⟨v', w', hr_, hsl_, hgr_, hblk_, _⟩ := run_append_sl (P := Try.prog) w_ 46 46 49 i1 _ 7 48 Try.underlying46 hi1 hz0 hz1 hz2 rfl hB_.slw (sl_blk (n := 2) (sz := 7) (xs := rowsC (wH2 k)) r_ rfl) (rowsC_cells _) (by omega) (by omega)
        have hA_ := hB_.appendw hsl_ hgr_ hblk_
        exact ⟨by kernel_rfl, v', w', Eq.trans (b := Sem.run Try.prog (do let r ← Builtin.append_ #[46, 46] 46 #[.slice A' m1 cap', .slice (some ⟨kk, 0, none⟩) 2 2]; pure (Next.value r)) w_) (by kernel_rfl) (run_val hr_), ⟨Nat.le_trans hJ.1 hgr_.size, fun h_ => (by cases h_), ⟨_, hA_⟩⟩, hgr_, hA_⟩
    · intro vals w_ hJ hf
      have e0 : vals 0 = _ := hf 0 (by decide)
      have e1 : vals 1 = _ := hf 1 (by decide)
      have e2 : vals 2 = _ := hf 2 (by decide)
      have e3 : vals 3 = _ := hf 3 (by decide)
      have e4 : vals 4 = _ := hf 4 (by decide)
      have e5 : vals 5 = _ := hf 5 (by decide)
      have e6 : vals 6 = _ := hf 6 (by decide)
      have e7 : vals 7 = _ := hf 7 (by decide)
      have e8 : vals 8 = _ := hf 8 (by decide)
      have e9 : vals 9 = _ := hf 9 (by decide)
      have e10 : vals 10 = _ := hf 10 (by decide)
      have e11 : vals 11 = _ := hf 11 (by decide)
      have e12 : vals 12 = _ := hf 12 (by decide)
      have e13 : vals 13 = _ := hf 13 (by decide)
      have e14 : vals 14 = _ := hf 14 (by decide)
      have e15 : vals 15 = _ := hf 15 (by decide)
      have e16 : vals 16 = _ := hf 16 (by decide)
      have e17 : vals 17 = _ := hf 17 (by decide)
      have e18 : vals 18 = _ := hf 18 (by decide)
      have e19 : vals 19 = _ := hf 19 (by decide)
      have e20 : vals 20 = _ := hf 20 (by decide)
      have e21 : vals 21 = _ := hf 21 (by decide)
      have e22 : vals 22 = _ := hf 22 (by decide)
      have e23 : vals 23 = _ := hf 23 (by decide)
      have e24 : vals 24 = _ := hf 24 (by decide)
      have e25 : vals 25 = _ := hf 25 (by decide)
      have e26 : vals 26 = _ := hf 26 (by decide)
      have e27 : vals 27 = _ := hf 27 (by decide)
      have e28 : vals 28 = _ := hf 28 (by decide)
      have e30 : Heap w0 w_ (HP.slw (vals 30) 7 (m1 + 2) (rowsC (B ++ uptoL wH k ++ wH1 k) ++ rowsC (wH2 k)) :: HP.slw (.slice (some ⟨g8, 0, none⟩) 3 3) 1 3 ks8 :: HP.slw (.slice (some ⟨g9, 0, none⟩) 3 3) 1 3 ks9 :: HP.slw (.slice (some ⟨g10, 0, none⟩) 3 3) 1 3 ks10 :: L) := hf 30 (by decide)
      show Oper.wp _ (Oper.mk _ _ _ _ _ _) (fillG vals 0 (_ :: _ :: _ :: _ :: _ :: _ :: _ :: _ :: _ :: _ :: _ :: _ :: _ :: _ :: _ :: _ :: _ :: _ :: _ :: _ :: _ :: _ :: _ :: _ :: _ :: _ :: _ :: _ :: _ :: _ :: _ :: []) _) _ _ _
      simp only [fillG, Nat.zero_add, Nat.reduceAdd, e0, e1, e2, e3, e4, e5, e6, e7, e8, e9, e10, e11, e12, e13, e14, e15, e16, e17, e18, e19, e20, e21, e22, e23, e24, e25, e26, e27, e28, Act.put, List.setIfInBounds_toArray, List.set_cons_succ, List.set_cons_zero]
      clear e0 e1 e2 e3 e4 e5 e6 e7 e8 e9 e10 e11 e12 e13 e14 e15 e16 e17 e18 e19 e20 e21 e22 e23 e24 e25 e26 e27 e28 hf
      generalize vals 29 = v29 at *
      generalize vals 30 = v30 at *
      refine wp_last_value (v := v30) (w' := w_) (by kernel_rfl) ?_
      simp only [Act.put, List.setIfInBounds_toArray, List.set_cons_succ, List.set_cons_zero]
      obtain ⟨A2', cap2', rfl, _⟩ := e30.slw.parts
      have HE := hide e30
      clear e30 hJ
      go_wp2
      have e7 : (k : Int) + 1 = ((k + 1 : Nat) : Int) := rfl
      try rw [e7]
      refine ⟨⟨k + 1, A2', m1 + 2, cap2', ⟨by omega, by omega, by rw [uptoL_succ, ← List.append_assoc, rowsC_app, show wH k = wH1 k ++ wH2 k from rfl, rowsC_app (wH1 k), ← List.append_assoc, ← rowsC_app]; exact unhide HE⟩, ?_⟩, by simp [WmuW7, intOf]; omega⟩
      unfold FRW7
      refine ⟨_, _, _, _, _, _, _, _, _, _, _, _, _, _, _, _, _, _, _, _, _, _, _, _, _, _, _, _, _, _, _, _, _, _, _, _, _, _, _, _, _, _, _, _, _, _, _, _, _, _, _, _, _, _, _, rfl⟩
set_option maxRecDepth 1000000 in
set_option maxHeartbeats 8000000 in
theorem roundW7 (hn : n0 ≤ 200) (Q0 : Exit → Act → World → Prop) (c0 c2 c3 c4 c5 c6 c7 xd xe xf xg xh xi xj xk xl xm xn xo xp xq xr xt xu xv xw y0 y1 y2 y3 y4 y5 y6 y7 y8 y9 yA yB yC yD yE yF yG yH yI yJ yK yL yM yN yO yP yQ yR yS yT yU yV yW yX yY yZ ya yb yc yd ye yf yg yh yi yj yk yl ym yn yo yp yq yr yt yu yv yw z0 z1 z2 z3 z4 z5 z6 z7 z8 z9 zA x0 x1 x2 x3 x4 x5 x6 x7 x8 x9 xA xB xC xD xE xF xG xH xI xJ xK xL xM xN xO xP xQ xR xS xT xU xV xW xX xY xZ xa xb xc : Value) (hexit : ∀ a' w'', WXw7 c0 c2 c3 c4 c5 c6 c7 xd xe xf xg xh xi xj xk xl xm xn xo xp xq xr xt xu xv xw y0 y1 y2 y3 y4 y5 y6 y7 y8 y9 yA yB yC yD yE yF yG yH yI yJ yK yL yM yN yO yP yQ yR yS yT yU yV yW yX yY yZ ya yb yc yd ye yf yg yh yi yj yk yl ym yn yo yp yq yr yt yu yv yw z0 z1 z2 z3 z4 z5 z6 z7 z8 z9 zA x0 x1 x2 x3 x4 x5 x6 x7 x8 x9 xA xB xC xD xE xF xG xH xI xJ xK xL xM xN xO xP xQ xR xS xT xU xV xW xX xY xZ xa xb xc w0 L B n0 g8 g9 g10 a' w'' → Q0 (.exit 8) a' w'') {a : Act} {wr : World} (hI : WIw7 c0 c2 c3 c4 c5 c6 c7 xd xe xf xg xh xi xj xk xl xm xn xo xp xq xr xt xu xv xw y0 y1 y2 y3 y4 y5 y6 y7 y8 y9 yA yB yC yD yE yF yG yH yI yJ yK yL yM yN yO yP yQ yR yS yT yU yV yW yX yY yZ ya yb yc yd ye yf yg yh yi yj yk yl ym yn yo yp yq yr yt yu yv yw z0 z1 z2 z3 z4 z5 z6 z7 z8 z9 zA x0 x1 x2 x3 x4 x5 x6 x7 x8 x9 xA xB xC xD xE xF xG xH xI xJ xK xL xM xN xO xP xQ xR xS xT xU xV xW xX xY xZ xa xb xc w0 L B n0 g8 g9 g10 a wr) :
    Code.wp Try.prog bodyW7 (Exit.then (fun a' w'' => WIw7 c0 c2 c3 c4 c5 c6 c7 xd xe xf xg xh xi xj xk xl xm xn xo xp xq xr xt xu xv xw y0 y1 y2 y3 y4 y5 y6 y7 y8 y9 yA yB yC yD yE yF yG yH yI yJ yK yL yM yN yO yP yQ yR yS yT yU yV yW yX yY yZ ya yb yc yd ye yf yg yh yi yj yk yl ym yn yo yp yq yr yt yu yv yw z0 z1 z2 z3 z4 z5 z6 z7 z8 z9 zA x0 x1 x2 x3 x4 x5 x6 x7 x8 x9 xA xB xC xD xE xF xG xH xI xJ xK xL xM xN xO xP xQ xR xS xT xU xV xW xX xY xZ xa xb xc w0 L B n0 g8 g9 g10 a' w'' ∧ WmuW7 3 a' w'' < WmuW7 3 a wr) Q0) a wr := by
  obtain ⟨k, A, m, cap, ⟨hk, hm, hJ⟩, hF⟩ := hI
  unfold FRW7 at hF
  obtain ⟨zB, hF⟩ := hF
  obtain ⟨zC, hF⟩ := hF
  obtain ⟨zD, hF⟩ := hF
  obtain ⟨zE, hF⟩ := hF
  obtain ⟨zF, hF⟩ := hF
  obtain ⟨zG, hF⟩ := hF
  obtain ⟨zH, hF⟩ := hF
  obtain ⟨zI, hF⟩ := hF
  obtain ⟨zJ, hF⟩ := hF
  obtain ⟨zK, hF⟩ := hF
  obtain ⟨zL, hF⟩ := hF
  obtain ⟨zM, hF⟩ := hF
  obtain ⟨zN, hF⟩ := hF
  obtain ⟨zO, hF⟩ := hF
  obtain ⟨zP, hF⟩ := hF
  obtain ⟨zQ, hF⟩ := hF
  obtain ⟨zR, hF⟩ := hF
  obtain ⟨zS, hF⟩ := hF
  obtain ⟨zT, hF⟩ := hF
  obtain ⟨zU, hF⟩ := hF
  obtain ⟨zV, hF⟩ := hF
  obtain ⟨zW, hF⟩ := hF
  obtain ⟨zX, hF⟩ := hF
  obtain ⟨zY, hF⟩ := hF
  obtain ⟨zZ, hF⟩ := hF
  obtain ⟨za, hF⟩ := hF
  obtain ⟨zb, hF⟩ := hF
  obtain ⟨zc, hF⟩ := hF
  obtain ⟨zd, hF⟩ := hF
  obtain ⟨ze, hF⟩ := hF
  obtain ⟨zf, hF⟩ := hF
  obtain ⟨zg, hF⟩ := hF
  obtain ⟨zh, hF⟩ := hF
  obtain ⟨zi, hF⟩ := hF
  obtain ⟨zj, hF⟩ := hF
  obtain ⟨zk, hF⟩ := hF
  obtain ⟨zl, hF⟩ := hF
  obtain ⟨zm, hF⟩ := hF
  obtain ⟨zn, hF⟩ := hF
  obtain ⟨zo, hF⟩ := hF
  obtain ⟨zp, hF⟩ := hF
  obtain ⟨zq, hF⟩ := hF
  obtain ⟨zr, hF⟩ := hF
  obtain ⟨zt, hF⟩ := hF
  obtain ⟨zu, hF⟩ := hF
  obtain ⟨zv, hF⟩ := hF
  obtain ⟨zw, hF⟩ := hF
  obtain ⟨q0, hF⟩ := hF
  obtain ⟨q1, hF⟩ := hF
  obtain ⟨q2, hF⟩ := hF
  obtain ⟨q3, hF⟩ := hF
  obtain ⟨q4, hF⟩ := hF
  obtain ⟨q5, hF⟩ := hF
  obtain ⟨q6, hF⟩ := hF
  obtain ⟨q7, hF⟩ := hF
  subst hF
  by_cases hlt : k < 3
  · exact oneW7 hn hm hJ hlt Q0 _ _ _ _ _ _ _ _ _ _ _ _ _ _ _ _ _ _ _ _ _ _ _ _ _ _ _ _ _ _ _ _ _ _ _ _ _ _ _ _ _ _ _ _ _ _ _ _ _ _ _ _ _ _ _ _ _ _ _ _ _ _ _ _ _ _ _ _ _ _ _ _ _ _ _ _ _ _ _ _ _ _ _ _ _ _ _ _ _ _ _ _ _ _ _ _ _ _ _ _ _ _ _ _ _ _ _ _ _ _ _ _ _ _ _ _ _ _ _ _ _ _ _ _ _ _ _ _ _ _ _ _ _ _ _ _ _ _ _ _ _ _ _ _ _ _ _ _ _ _ _ _ _ _ _ _ _ _ _ _ _ _ _ _ _ _ _ _ _ _ _ _ _ _ _ _ _ _ _ _ _ _ _ _ _ _ _ _ _
  · obtain rfl : k = 3 := by omega
    have HJ := hide hJ
    clear hJ
    conv => arg 2; whnf
    go_wp2
    refine ⟨A, m, cap, ⟨by omega, unhide HJ⟩, ?_⟩
    unfold FRW7
    refine ⟨_, _, _, _, _, _, _, _, _, _, _, _, _, _, _, _, _, _, _, _, _, _, _, _, _, _, _, _, _, _, _, _, _, _, _, _, _, _, _, _, _, _, _, _, _, _, _, _, _, _, _, _, _, _, _, rfl⟩
set_option maxRecDepth 1000000 in
theorem loopW7 (hn : n0 ≤ 200) (Q0 : Exit → Act → World → Prop) (c0 c2 c3 c4 c5 c6 c7 xd xe xf xg xh xi xj xk xl xm xn xo xp xq xr xt xu xv xw y0 y1 y2 y3 y4 y5 y6 y7 y8 y9 yA yB yC yD yE yF yG yH yI yJ yK yL yM yN yO yP yQ yR yS yT yU yV yW yX yY yZ ya yb yc yd ye yf yg yh yi yj yk yl ym yn yo yp yq yr yt yu yv yw z0 z1 z2 z3 z4 z5 z6 z7 z8 z9 zA x0 x1 x2 x3 x4 x5 x6 x7 x8 x9 xA xB xC xD xE xF xG xH xI xJ xK xL xM xN xO xP xQ xR xS xT xU xV xW xX xY xZ xa xb xc : Value) {A : Option Addr} {m cap : Nat} {wr : World} (hm : m ≤ n0) (hJ : Heap w0 wr (HP.slw (.slice A m cap) 7 m (rowsC B) :: HP.slw (.slice (some ⟨g8, 0, none⟩) 3 3) 1 3 ks8 :: HP.slw (.slice (some ⟨g9, 0, none⟩) 3 3) 1 3 ks9 :: HP.slw (.slice (some ⟨g10, 0, none⟩) 3 3) 1 3 ks10 :: L)) (zB zC zD zE zF zG zH zI zJ zK zL zM zN zO zP zQ zR zS zT zU zV zW zX zY zZ za zb zc zd ze zf zg zh zi zj zk zl zm zn zo zp zq zr zt zu zv zw q0 q1 q2 q3 q4 q5 q6 q7 : Value) (hexit : ∀ a' w'', WXw7 c0 c2 c3 c4 c5 c6 c7 xd xe xf xg xh xi xj xk xl xm xn xo xp xq xr xt xu xv xw y0 y1 y2 y3 y4 y5 y6 y7 y8 y9 yA yB yC yD yE yF yG yH yI yJ yK yL yM yN yO yP yQ yR yS yT yU yV yW yX yY yZ ya yb yc yd ye yf yg yh yi yj yk yl ym yn yo yp yq yr yt yu yv yw z0 z1 z2 z3 z4 z5 z6 z7 z8 z9 zA x0 x1 x2 x3 x4 x5 x6 x7 x8 x9 xA xB xC xD xE xF xG xH xI xJ xK xL xM xN xO xP xQ xR xS xT xU xV xW xX xY xZ xa xb xc w0 L B n0 g8 g9 g10 a' w'' → Q0 (.exit 8) a' w'') :
    Code.wp Try.prog (Code.loop bodyW7) Q0 ⟨#[c0, .slice A m cap, c2, c3, c4, c5, c6, c7, .slice (some ⟨g8, 0, none⟩) 3 3, .slice (some ⟨g9, 0, none⟩) 3 3, .slice (some ⟨g10, 0, none⟩) 3 3, .int .i64 0, xd, xe, xf, xg, xh, xi, xj, xk, xl, xm, xn, xo, xp, xq, xr, xt, xu, xv, xw, y0, y1, y2, y3, y4, y5, y6, y7, y8, y9, yA, yB, yC, yD, yE, yF, yG, yH, yI, yJ, yK, yL, yM, yN, yO, yP, yQ, yR, yS, yT, yU, yV, yW, yX, yY, yZ, ya, yb, yc, yd, ye, yf, yg, yh, yi, yj, yk, yl, ym, yn, yo, yp, yq, yr, yt, yu, yv, yw, z0, z1, z2, z3, z4, z5, z6, z7, z8, z9, zA, x0, x1, x2, x3, x4, x5, x6, x7, x8, x9, xA, zB, zC, zD, zE, zF, zG, zH, zI, zJ, zK, zL, zM, zN, zO, zP, zQ, zR, zS, zT, zU, zV, zW, zX, zY, zZ, za, zb, zc, zd, ze, zf, zg, zh, zi, zj, zk, zl, zm, zn, zo, zp, zq, zr, zt, zu, zv, zw, q0, q1, q2, q3, q4, q5, q6, q7, xB, xC, xD, xE, xF, xG, xH, xI, xJ, xK, xL, xM, xN, xO, xP, xQ, xR, xS, xT, xU, xV, xW, xX, xY, xZ, xa, xb, xc], []⟩ wr := by
  refine wp_loop (WIw7 c0 c2 c3 c4 c5 c6 c7 xd xe xf xg xh xi xj xk xl xm xn xo xp xq xr xt xu xv xw y0 y1 y2 y3 y4 y5 y6 y7 y8 y9 yA yB yC yD yE yF yG yH yI yJ yK yL yM yN yO yP yQ yR yS yT yU yV yW yX yY yZ ya yb yc yd ye yf yg yh yi yj yk yl ym yn yo yp yq yr yt yu yv yw z0 z1 z2 z3 z4 z5 z6 z7 z8 z9 zA x0 x1 x2 x3 x4 x5 x6 x7 x8 x9 xA xB xC xD xE xF xG xH xI xJ xK xL xM xN xO xP xQ xR xS xT xU xV xW xX xY xZ xa xb xc w0 L B n0 g8 g9 g10) (WmuW7 3) ⟨0, A, m, cap, ⟨by omega, by omega, by rw [show uptoL wH 0 = [] from rfl, List.append_nil]; exact hJ⟩, ?_⟩ (fun a w'' hI => roundW7 hn Q0 c0 c2 c3 c4 c5 c6 c7 xd xe xf xg xh xi xj xk xl xm xn xo xp xq xr xt xu xv xw y0 y1 y2 y3 y4 y5 y6 y7 y8 y9 yA yB yC yD yE yF yG yH yI yJ yK yL yM yN yO yP yQ yR yS yT yU yV yW yX yY yZ ya yb yc yd ye yf yg yh yi yj yk yl ym yn yo yp yq yr yt yu yv yw z0 z1 z2 z3 z4 z5 z6 z7 z8 z9 zA x0 x1 x2 x3 x4 x5 x6 x7 x8 x9 xA xB xC xD xE xF xG xH xI xJ xK xL xM xN xO xP xQ xR xS xT xU xV xW xX xY xZ xa xb xc hexit hI)
  unfold FRW7
  exact ⟨zB, zC, zD, zE, zF, zG, zH, zI, zJ, zK, zL, zM, zN, zO, zP, zQ, zR, zS, zT, zU, zV, zW, zX, zY, zZ, za, zb, zc, zd, ze, zf, zg, zh, zi, zj, zk, zl, zm, zn, zo, zp, zq, zr, zt, zu, zv, zw, q0, q1, q2, q3, q4, q5, q6, q7, rfl⟩
end Go.Proofs.Ytopbdiekfhikmaa
