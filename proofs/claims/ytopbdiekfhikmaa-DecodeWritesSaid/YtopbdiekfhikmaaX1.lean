/- Layer 3, the document's side: float: the first loop. / Layer 3, the document's side: float: the second loop. -/
import Derived.Test.YtopbdiekfhikmaaW4
import Derived.Deep.CutRange
namespace Go.Proofs.Ytopbdiekfhikmaa
open Go.RowKit
def flA (d k : Nat) : List RowS := if d = 0 then ([[⟨100663423, 67, 60, ⟨#[100, 49, 50, 51, 114]⟩, 4, false, false⟩], [⟨100663423, 71, 61, ⟨#[100, 49, 50, 51, 114]⟩, 4, false, false⟩], [⟨100663423, 75, 62, ⟨#[100, 49, 50, 51, 114]⟩, 4, false, false⟩], [⟨100663423, 79, 63, ⟨#[100, 49, 50, 51, 114]⟩, 4, false, false⟩]][k]?).getD [] else ([[⟨100663423, 33554499, 60, ⟨#[100, 49, 50, 51, 114]⟩, 8, false, false⟩], [⟨100663423, 33554503, 61, ⟨#[100, 49, 50, 51, 114]⟩, 8, false, false⟩], [⟨100663423, 33554507, 62, ⟨#[100, 49, 50, 51, 114]⟩, 8, false, false⟩], [⟨100663423, 33554511, 63, ⟨#[100, 49, 50, 51, 114]⟩, 8, false, false⟩]][k]?).getD []
def ks5 : List Value := [.int .i64 60, .int .i64 61, .int .i64 62, .int .i64 63]
def loopsOfX1 : Code → List Code
  | .loop c => [c]
  | .seq a b => loopsOfX1 a ++ loopsOfX1 b
  | .block _ c => loopsOfX1 c
  | .scope c => loopsOfX1 c
  | .cond _ a b => loopsOfX1 a ++ loopsOfX1 b
  | _ => []
noncomputable def bodyX1 : Code := ((Try.f43.body.map loopsOfX1).getD []).getD 0 .skip
set_option maxRecDepth 1000000 in
def FRX1 (c1 c2 c7 c8 c9 yO yP yQ yR yS yT yU yV yW yX yY yZ ya yb yc yd ye yf yg yh yi yj yk yl ze zf zg zh zi zj zk zl zm zn zo zp zq zr zt zu ym yn yo yp yq yr yt yu yv yw z0 z1 z2 z3 z4 z5 z6 z7 z8 z9 zA zB zC zD zE zF zG zH zI zJ zK x0 x1 x2 x3 x4 x5 x6 x7 x8 x9 xA xB xC xD xE xF xG xH xI xJ xK xL xM xN xO xP xQ xR xS xT xU xV xW xX xY xZ xa xb xc xd xe xf xg xh xi xj xk xl xm xn xo xp xq xr xt xu xv xw y0 y1 y2 y3 y4 y5 y6 y7 y8 y9 yA yB yC yD yE yF yG yH yI yJ yK yL yM yN : Value) (A : Option Addr) (m cap : Nat) (ck : Int) (g5 _d : Nat) (sz fm : Int) (a : Act) : Prop := ∃ zv : Value, ∃ zw : Value, ∃ q0 : Value, ∃ q1 : Value, ∃ q2 : Value, ∃ q3 : Value, ∃ q4 : Value, ∃ q5 : Value, ∃ q6 : Value, ∃ q7 : Value, ∃ q8 : Value, ∃ q9 : Value, ∃ qA : Value, ∃ qB : Value, ∃ qC : Value, ∃ qD : Value, ∃ qE : Value, ∃ qF : Value, ∃ qG : Value, a = ⟨#[.int .i64 sz, c1, c2, .int .u32 fm, .slice A m cap, .slice (some ⟨g5, 0, none⟩) 4 4, .int .i64 ck, c7, c8, c9, yO, yP, yQ, yR, yS, yT, yU, yV, yW, yX, yY, yZ, ya, yb, yc, yd, ye, yf, yg, yh, yi, yj, zv, zw, q0, q1, q2, q3, q4, q5, q6, q7, q8, q9, qA, qB, qC, qD, qE, qF, qG, yk, yl, ze, zf, zg, zh, zi, zj, zk, zl, zm, zn, zo, zp, zq, zr, zt, zu, ym, yn, yo, yp, yq, yr, yt, yu, yv, yw, z0, z1, z2, z3, z4, z5, z6, z7, z8, z9, zA, zB, zC, zD, zE, zF, zG, zH, zI, zJ, zK, x0, x1, x2, x3, x4, x5, x6, x7, x8, x9, xA, xB, xC, xD, xE, xF, xG, xH, xI, xJ, xK, xL, xM, xN, xO, xP, xQ, xR, xS, xT, xU, xV, xW, xX, xY, xZ, xa, xb, xc, xd, xe, xf, xg, xh, xi, xj, xk, xl, xm, xn, xo, xp, xq, xr, xt, xu, xv, xw, y0, y1, y2, y3, y4, y5, y6, y7, y8, y9, yA, yB, yC, yD, yE, yF, yG, yH, yI, yJ, yK, yL, yM, yN], []⟩
def WIX1 (c1 c2 c7 c8 c9 yO yP yQ yR yS yT yU yV yW yX yY yZ ya yb yc yd ye yf yg yh yi yj yk yl ze zf zg zh zi zj zk zl zm zn zo zp zq zr zt zu ym yn yo yp yq yr yt yu yv yw z0 z1 z2 z3 z4 z5 z6 z7 z8 z9 zA zB zC zD zE zF zG zH zI zJ zK x0 x1 x2 x3 x4 x5 x6 x7 x8 x9 xA xB xC xD xE xF xG xH xI xJ xK xL xM xN xO xP xQ xR xS xT xU xV xW xX xY xZ xa xb xc xd xe xf xg xh xi xj xk xl xm xn xo xp xq xr xt xu xv xw y0 y1 y2 y3 y4 y5 y6 y7 y8 y9 yA yB yC yD yE yF yG yH yI yJ yK yL yM yN : Value) (w0 : World) (L : List HP) (B : List RowS) (n0 : Nat) (g5 d : Nat) (sz fm : Int) (a : Act) (wr : World) : Prop := ∃ (k : Nat) (ck : Int) (A : Option Addr) (m cap : Nat), (ck = (k : Int) ∧ k ≤ 4 ∧ m ≤ n0 + 1 * k ∧ Heap w0 wr (HP.slw (.slice A m cap) 7 m (rowsC (B ++ uptoL (flA d) (k))) :: HP.slw (.slice (some ⟨g5, 0, none⟩) 4 4) 1 4 ks5 :: L)) ∧ FRX1 c1 c2 c7 c8 c9 yO yP yQ yR yS yT yU yV yW yX yY yZ ya yb yc yd ye yf yg yh yi yj yk yl ze zf zg zh zi zj zk zl zm zn zo zp zq zr zt zu ym yn yo yp yq yr yt yu yv yw z0 z1 z2 z3 z4 z5 z6 z7 z8 z9 zA zB zC zD zE zF zG zH zI zJ zK x0 x1 x2 x3 x4 x5 x6 x7 x8 x9 xA xB xC xD xE xF xG xH xI xJ xK xL xM xN xO xP xQ xR xS xT xU xV xW xX xY xZ xa xb xc xd xe xf xg xh xi xj xk xl xm xn xo xp xq xr xt xu xv xw y0 y1 y2 y3 y4 y5 y6 y7 y8 y9 yA yB yC yD yE yF yG yH yI yJ yK yL yM yN A m cap ck g5 d sz fm a
def WXX1 (c1 c2 c7 c8 c9 yO yP yQ yR yS yT yU yV yW yX yY yZ ya yb yc yd ye yf yg yh yi yj yk yl ze zf zg zh zi zj zk zl zm zn zo zp zq zr zt zu ym yn yo yp yq yr yt yu yv yw z0 z1 z2 z3 z4 z5 z6 z7 z8 z9 zA zB zC zD zE zF zG zH zI zJ zK x0 x1 x2 x3 x4 x5 x6 x7 x8 x9 xA xB xC xD xE xF xG xH xI xJ xK xL xM xN xO xP xQ xR xS xT xU xV xW xX xY xZ xa xb xc xd xe xf xg xh xi xj xk xl xm xn xo xp xq xr xt xu xv xw y0 y1 y2 y3 y4 y5 y6 y7 y8 y9 yA yB yC yD yE yF yG yH yI yJ yK yL yM yN : Value) (w0 : World) (L : List HP) (B : List RowS) (n0 : Nat) (g5 d : Nat) (sz fm : Int) (a : Act) (wr : World) : Prop := ∃ (A : Option Addr) (m cap : Nat), (m ≤ n0 + 4 ∧ Heap w0 wr (HP.slw (.slice A m cap) 7 m (rowsC (B ++ uptoL (flA d) (4))) :: HP.slw (.slice (some ⟨g5, 0, none⟩) 4 4) 1 4 ks5 :: L)) ∧ FRX1 c1 c2 c7 c8 c9 yO yP yQ yR yS yT yU yV yW yX yY yZ ya yb yc yd ye yf yg yh yi yj yk yl ze zf zg zh zi zj zk zl zm zn zo zp zq zr zt zu ym yn yo yp yq yr yt yu yv yw z0 z1 z2 z3 z4 z5 z6 z7 z8 z9 zA zB zC zD zE zF zG zH zI zJ zK x0 x1 x2 x3 x4 x5 x6 x7 x8 x9 xA xB xC xD xE xF xG xH xI xJ xK xL xM xN xO xP xQ xR xS xT xU xV xW xX xY xZ xa xb xc xd xe xf xg xh xi xj xk xl xm xn xo xp xq xr xt xu xv xw y0 y1 y2 y3 y4 y5 y6 y7 y8 y9 yA yB yC yD yE yF yG yH yI yJ yK yL yM yN A m cap 4 g5 d sz fm a
def WmuX1 (K : Nat) (a : Act) (_ : World) : Nat := K - (intOf (a.tmps.getD 6 undef)).toNat
variable {w0 : World} {L : List HP} {B : List RowS} {n0 : Nat} {g5 d : Nat} {sz fm : Int}
set_option maxRecDepth 1000000 in
set_option maxHeartbeats 8000000 in
theorem oneX1 (hn : n0 ≤ 200) (hs : (d = 0 ∧ sz = 4 ∧ fm = 0) ∨ (d = 1 ∧ sz = 8 ∧ fm = 33554432)) {A : Option Addr} {m cap k : Nat} {ck : Int} (hck : ck = (k : Int)) {wr : World} (hm : m ≤ n0 + 1 * k) (hJ : Heap w0 wr (HP.slw (.slice A m cap) 7 m (rowsC (B ++ uptoL (flA d) (k))) :: HP.slw (.slice (some ⟨g5, 0, none⟩) 4 4) 1 4 ks5 :: L)) (hlt : k < 4) (Q0 : Exit → Act → World → Prop) (c1 c2 c7 c8 c9 yO yP yQ yR yS yT yU yV yW yX yY yZ ya yb yc yd ye yf yg yh yi yj yk yl ze zf zg zh zi zj zk zl zm zn zo zp zq zr zt zu ym yn yo yp yq yr yt yu yv yw z0 z1 z2 z3 z4 z5 z6 z7 z8 z9 zA zB zC zD zE zF zG zH zI zJ zK x0 x1 x2 x3 x4 x5 x6 x7 x8 x9 xA xB xC xD xE xF xG xH xI xJ xK xL xM xN xO xP xQ xR xS xT xU xV xW xX xY xZ xa xb xc xd xe xf xg xh xi xj xk xl xm xn xo xp xq xr xt xu xv xw y0 y1 y2 y3 y4 y5 y6 y7 y8 y9 yA yB yC yD yE yF yG yH yI yJ yK yL yM yN zv zw q0 q1 q2 q3 q4 q5 q6 q7 q8 q9 qA qB qC qD qE qF qG : Value) :
    Code.wp Try.prog bodyX1 (Exit.then (fun a' w'' => WIX1 c1 c2 c7 c8 c9 yO yP yQ yR yS yT yU yV yW yX yY yZ ya yb yc yd ye yf yg yh yi yj yk yl ze zf zg zh zi zj zk zl zm zn zo zp zq zr zt zu ym yn yo yp yq yr yt yu yv yw z0 z1 z2 z3 z4 z5 z6 z7 z8 z9 zA zB zC zD zE zF zG zH zI zJ zK x0 x1 x2 x3 x4 x5 x6 x7 x8 x9 xA xB xC xD xE xF xG xH xI xJ xK xL xM xN xO xP xQ xR xS xT xU xV xW xX xY xZ xa xb xc xd xe xf xg xh xi xj xk xl xm xn xo xp xq xr xt xu xv xw y0 y1 y2 y3 y4 y5 y6 y7 y8 y9 yA yB yC yD yE yF yG yH yI yJ yK yL yM yN w0 L B n0 g5 d sz fm a' w'' ∧ WmuX1 4 a' w'' < 4 - ck.toNat) Q0) ⟨#[.int .i64 sz, c1, c2, .int .u32 fm, .slice A m cap, .slice (some ⟨g5, 0, none⟩) 4 4, .int .i64 ck, c7, c8, c9, yO, yP, yQ, yR, yS, yT, yU, yV, yW, yX, yY, yZ, ya, yb, yc, yd, ye, yf, yg, yh, yi, yj, zv, zw, q0, q1, q2, q3, q4, q5, q6, q7, q8, q9, qA, qB, qC, qD, qE, qF, qG, yk, yl, ze, zf, zg, zh, zi, zj, zk, zl, zm, zn, zo, zp, zq, zr, zt, zu, ym, yn, yo, yp, yq, yr, yt, yu, yv, yw, z0, z1, z2, z3, z4, z5, z6, z7, z8, z9, zA, zB, zC, zD, zE, zF, zG, zH, zI, zJ, zK, x0, x1, x2, x3, x4, x5, x6, x7, x8, x9, xA, xB, xC, xD, xE, xF, xG, xH, xI, xJ, xK, xL, xM, xN, xO, xP, xQ, xR, xS, xT, xU, xV, xW, xX, xY, xZ, xa, xb, xc, xd, xe, xf, xg, xh, xi, xj, xk, xl, xm, xn, xo, xp, xq, xr, xt, xu, xv, xw, y0, y1, y2, y3, y4, y5, y6, y7, y8, y9, yA, yB, yC, yD, yE, yF, yG, yH, yI, yJ, yK, yL, yM, yN], []⟩ wr := by
  conv => arg 2; whnf
  have HJ := hide hJ
  clear hJ
  obtain ⟨i1, hi1, hz0, hz1, hz2⟩ := info_parts info49
  obtain ⟨R0, hR0⟩ : ∃ R, (flA d) k = R := ⟨_, rfl⟩
  have HR0 := hide hR0
  clear hR0
  obtain ⟨v5, hv5⟩ : ∃ v, ks5[k]? = some v := ⟨_, List.getElem?_eq_getElem (by show k < 4; omega)⟩
  have HV5 := hide hv5
  clear hv5
  have hc : (k = 0 ∧ ck = 0) ∨ (k = 1 ∧ ck = 1) ∨ (k = 2 ∧ ck = 2) ∨ (k = 3 ∧ ck = 3) := by omega
  clear hlt hck
  rcases hs with ⟨rfl, rfl, rfl⟩ | ⟨rfl, rfl, rfl⟩ <;> rcases hc with ⟨hkv, rfl⟩ | ⟨hkv, rfl⟩ | ⟨hkv, rfl⟩ | ⟨hkv, rfl⟩
  all_goals
    have HKV := hide hkv
    have hv5 := unhide HV5
    rw [unhide HKV] at hv5
    injection hv5 with hv5
    subst hv5
    have hv5 := unhide HV5
    rw [unhide HKV] at hv5
    have cE := slw_at (unhide HJ).tail hv5
    have hgl := (unhide HJ).tail.slw.blk_lt rfl
    clear hv5
    go_wp2_with (at_builtin; refine wpList_append_sl (n := m) (m := 1) rfl _ _ 46 rfl 49 i1 _ 7 48 Try.underlying46 hi1 hz0 hz1 hz2 rfl rfl rfl ((unhide HJ).alloc _).slw (sl_blk (n := 1) (sz := 7) (xs := rowsC R0) (by rw [← unhide HR0, unhide HKV]; exact heap_new' wr _) (by rw [← unhide HR0, unhide HKV]; rfl)) (rowsC_cells _) (by omega) (by omega) ?_; intro v' w7 hsl hgr hblk hsp; obtain ⟨A', cap', rfl, _⟩ := hsl.parts; have hA := hide (((unhide HJ).alloc _).appendw hsl hgr hblk); clear hsl hgr hblk hsp; refine unhide ?_)
    refine hide ?_
    go_wp2
    refine ⟨⟨k + 1, ((k + 1 : Nat) : Int), A', m + 1, cap', ⟨rfl, by have := unhide HKV; omega, by omega, by rw [uptoL_succ, ← List.append_assoc, rowsC_app, unhide HR0]; exact unhide hA⟩, ?_⟩, by simp [WmuX1, intOf]⟩
    unfold FRX1
    obtain rfl := unhide HKV
    refine ⟨_, _, _, _, _, _, _, _, _, _, _, _, _, _, _, _, _, _, _, rfl⟩
set_option maxRecDepth 1000000 in
set_option maxHeartbeats 8000000 in
theorem roundX1 (hn : n0 ≤ 200) (hs : (d = 0 ∧ sz = 4 ∧ fm = 0) ∨ (d = 1 ∧ sz = 8 ∧ fm = 33554432)) (Q0 : Exit → Act → World → Prop) (c1 c2 c7 c8 c9 yO yP yQ yR yS yT yU yV yW yX yY yZ ya yb yc yd ye yf yg yh yi yj yk yl ze zf zg zh zi zj zk zl zm zn zo zp zq zr zt zu ym yn yo yp yq yr yt yu yv yw z0 z1 z2 z3 z4 z5 z6 z7 z8 z9 zA zB zC zD zE zF zG zH zI zJ zK x0 x1 x2 x3 x4 x5 x6 x7 x8 x9 xA xB xC xD xE xF xG xH xI xJ xK xL xM xN xO xP xQ xR xS xT xU xV xW xX xY xZ xa xb xc xd xe xf xg xh xi xj xk xl xm xn xo xp xq xr xt xu xv xw y0 y1 y2 y3 y4 y5 y6 y7 y8 y9 yA yB yC yD yE yF yG yH yI yJ yK yL yM yN : Value) (hexit : ∀ a' w'', WXX1 c1 c2 c7 c8 c9 yO yP yQ yR yS yT yU yV yW yX yY yZ ya yb yc yd ye yf yg yh yi yj yk yl ze zf zg zh zi zj zk zl zm zn zo zp zq zr zt zu ym yn yo yp yq yr yt yu yv yw z0 z1 z2 z3 z4 z5 z6 z7 z8 z9 zA zB zC zD zE zF zG zH zI zJ zK x0 x1 x2 x3 x4 x5 x6 x7 x8 x9 xA xB xC xD xE xF xG xH xI xJ xK xL xM xN xO xP xQ xR xS xT xU xV xW xX xY xZ xa xb xc xd xe xf xg xh xi xj xk xl xm xn xo xp xq xr xt xu xv xw y0 y1 y2 y3 y4 y5 y6 y7 y8 y9 yA yB yC yD yE yF yG yH yI yJ yK yL yM yN w0 L B n0 g5 d sz fm a' w'' → Q0 (.exit 0) a' w'') {a : Act} {wr : World} (hI : WIX1 c1 c2 c7 c8 c9 yO yP yQ yR yS yT yU yV yW yX yY yZ ya yb yc yd ye yf yg yh yi yj yk yl ze zf zg zh zi zj zk zl zm zn zo zp zq zr zt zu ym yn yo yp yq yr yt yu yv yw z0 z1 z2 z3 z4 z5 z6 z7 z8 z9 zA zB zC zD zE zF zG zH zI zJ zK x0 x1 x2 x3 x4 x5 x6 x7 x8 x9 xA xB xC xD xE xF xG xH xI xJ xK xL xM xN xO xP xQ xR xS xT xU xV xW xX xY xZ xa xb xc xd xe xf xg xh xi xj xk xl xm xn xo xp xq xr xt xu xv xw y0 y1 y2 y3 y4 y5 y6 y7 y8 y9 yA yB yC yD yE yF yG yH yI yJ yK yL yM yN w0 L B n0 g5 d sz fm a wr) :
    Code.wp Try.prog bodyX1 (Exit.then (fun a' w'' => WIX1 c1 c2 c7 c8 c9 yO yP yQ yR yS yT yU yV yW yX yY yZ ya yb yc yd ye yf yg yh yi yj yk yl ze zf zg zh zi zj zk zl zm zn zo zp zq zr zt zu ym yn yo yp yq yr yt yu yv yw z0 z1 z2 z3 z4 z5 z6 z7 z8 z9 zA zB zC zD zE zF zG zH zI zJ zK x0 x1 x2 x3 x4 x5 x6 x7 x8 x9 xA xB xC xD xE xF xG xH xI xJ xK xL xM xN xO xP xQ xR xS xT xU xV xW xX xY xZ xa xb xc xd xe xf xg xh xi xj xk xl xm xn xo xp xq xr xt xu xv xw y0 y1 y2 y3 y4 y5 y6 y7 y8 y9 yA yB yC yD yE yF yG yH yI yJ yK yL yM yN w0 L B n0 g5 d sz fm a' w'' ∧ WmuX1 4 a' w'' < WmuX1 4 a wr) Q0) a wr := by
  obtain ⟨k, ck, A, m, cap, ⟨hck, hk, hm, hJ⟩, hF⟩ := hI
  unfold FRX1 at hF
  obtain ⟨zv, hF⟩ := hF
  obtain ⟨zw, hF⟩ := hF
  obtain ⟨q0, hF⟩ := hF
  obtain ⟨q1, hF⟩ := hF
  obtain ⟨q2, hF⟩ := hF
  obtain ⟨q3, hF⟩ := hF
  obtain ⟨q4, hF⟩ := hF
  obtain ⟨q5, hF⟩ := hF
  obtain ⟨q6, hF⟩ := hF
  obtain ⟨q7, hF⟩ := hF
  obtain ⟨q8, hF⟩ := hF
  obtain ⟨q9, hF⟩ := hF
  obtain ⟨qA, hF⟩ := hF
  obtain ⟨qB, hF⟩ := hF
  obtain ⟨qC, hF⟩ := hF
  obtain ⟨qD, hF⟩ := hF
  obtain ⟨qE, hF⟩ := hF
  obtain ⟨qF, hF⟩ := hF
  obtain ⟨qG, hF⟩ := hF
  subst hF
  by_cases hlt : k < 4
  · exact oneX1 hn hs hck hm hJ hlt Q0 _ _ _ _ _ _ _ _ _ _ _ _ _ _ _ _ _ _ _ _ _ _ _ _ _ _ _ _ _ _ _ _ _ _ _ _ _ _ _ _ _ _ _ _ _ _ _ _ _ _ _ _ _ _ _ _ _ _ _ _ _ _ _ _ _ _ _ _ _ _ _ _ _ _ _ _ _ _ _ _ _ _ _ _ _ _ _ _ _ _ _ _ _ _ _ _ _ _ _ _ _ _ _ _ _ _ _ _ _ _ _ _ _ _ _ _ _ _ _ _ _ _ _ _ _ _ _ _ _ _ _ _ _ _ _ _ _ _ _ _ _ _ _ _ _ _ _ _ _ _ _ _ _ _ _ _ _ _ _ _ _ _ _ _ _ _ _ _ _ _ _ _ _ _ _ _ _
  · obtain rfl : k = 4 := by omega
    obtain rfl : ck = 4 := by omega
    have HJ := hide hJ
    clear hJ hck
    conv => arg 2; whnf
    go_wp2
    refine ⟨A, m, cap, ⟨by omega, unhide HJ⟩, ?_⟩
    unfold FRX1
    refine ⟨_, _, _, _, _, _, _, _, _, _, _, _, _, _, _, _, _, _, _, rfl⟩
set_option maxRecDepth 1000000 in
theorem loopX1 (hn : n0 ≤ 200) (hs : (d = 0 ∧ sz = 4 ∧ fm = 0) ∨ (d = 1 ∧ sz = 8 ∧ fm = 33554432)) (Q0 : Exit → Act → World → Prop) (c1 c2 c7 c8 c9 yO yP yQ yR yS yT yU yV yW yX yY yZ ya yb yc yd ye yf yg yh yi yj yk yl ze zf zg zh zi zj zk zl zm zn zo zp zq zr zt zu ym yn yo yp yq yr yt yu yv yw z0 z1 z2 z3 z4 z5 z6 z7 z8 z9 zA zB zC zD zE zF zG zH zI zJ zK x0 x1 x2 x3 x4 x5 x6 x7 x8 x9 xA xB xC xD xE xF xG xH xI xJ xK xL xM xN xO xP xQ xR xS xT xU xV xW xX xY xZ xa xb xc xd xe xf xg xh xi xj xk xl xm xn xo xp xq xr xt xu xv xw y0 y1 y2 y3 y4 y5 y6 y7 y8 y9 yA yB yC yD yE yF yG yH yI yJ yK yL yM yN : Value) {A : Option Addr} {m cap : Nat} {wr : World} (hm : m ≤ n0) (hJ : Heap w0 wr (HP.slw (.slice A m cap) 7 m (rowsC B) :: HP.slw (.slice (some ⟨g5, 0, none⟩) 4 4) 1 4 ks5 :: L)) (zv zw q0 q1 q2 q3 q4 q5 q6 q7 q8 q9 qA qB qC qD qE qF qG : Value) (hexit : ∀ a' w'', WXX1 c1 c2 c7 c8 c9 yO yP yQ yR yS yT yU yV yW yX yY yZ ya yb yc yd ye yf yg yh yi yj yk yl ze zf zg zh zi zj zk zl zm zn zo zp zq zr zt zu ym yn yo yp yq yr yt yu yv yw z0 z1 z2 z3 z4 z5 z6 z7 z8 z9 zA zB zC zD zE zF zG zH zI zJ zK x0 x1 x2 x3 x4 x5 x6 x7 x8 x9 xA xB xC xD xE xF xG xH xI xJ xK xL xM xN xO xP xQ xR xS xT xU xV xW xX xY xZ xa xb xc xd xe xf xg xh xi xj xk xl xm xn xo xp xq xr xt xu xv xw y0 y1 y2 y3 y4 y5 y6 y7 y8 y9 yA yB yC yD yE yF yG yH yI yJ yK yL yM yN w0 L B n0 g5 d sz fm a' w'' → Q0 (.exit 0) a' w'') :
    Code.wp Try.prog (Code.loop bodyX1) Q0 ⟨#[.int .i64 sz, c1, c2, .int .u32 fm, .slice A m cap, .slice (some ⟨g5, 0, none⟩) 4 4, .int .i64 0, c7, c8, c9, yO, yP, yQ, yR, yS, yT, yU, yV, yW, yX, yY, yZ, ya, yb, yc, yd, ye, yf, yg, yh, yi, yj, zv, zw, q0, q1, q2, q3, q4, q5, q6, q7, q8, q9, qA, qB, qC, qD, qE, qF, qG, yk, yl, ze, zf, zg, zh, zi, zj, zk, zl, zm, zn, zo, zp, zq, zr, zt, zu, ym, yn, yo, yp, yq, yr, yt, yu, yv, yw, z0, z1, z2, z3, z4, z5, z6, z7, z8, z9, zA, zB, zC, zD, zE, zF, zG, zH, zI, zJ, zK, x0, x1, x2, x3, x4, x5, x6, x7, x8, x9, xA, xB, xC, xD, xE, xF, xG, xH, xI, xJ, xK, xL, xM, xN, xO, xP, xQ, xR, xS, xT, xU, xV, xW, xX, xY, xZ, xa, xb, xc, xd, xe, xf, xg, xh, xi, xj, xk, xl, xm, xn, xo, xp, xq, xr, xt, xu, xv, xw, y0, y1, y2, y3, y4, y5, y6, y7, y8, y9, yA, yB, yC, yD, yE, yF, yG, yH, yI, yJ, yK, yL, yM, yN], []⟩ wr := by
  refine wp_loop (WIX1 c1 c2 c7 c8 c9 yO yP yQ yR yS yT yU yV yW yX yY yZ ya yb yc yd ye yf yg yh yi yj yk yl ze zf zg zh zi zj zk zl zm zn zo zp zq zr zt zu ym yn yo yp yq yr yt yu yv yw z0 z1 z2 z3 z4 z5 z6 z7 z8 z9 zA zB zC zD zE zF zG zH zI zJ zK x0 x1 x2 x3 x4 x5 x6 x7 x8 x9 xA xB xC xD xE xF xG xH xI xJ xK xL xM xN xO xP xQ xR xS xT xU xV xW xX xY xZ xa xb xc xd xe xf xg xh xi xj xk xl xm xn xo xp xq xr xt xu xv xw y0 y1 y2 y3 y4 y5 y6 y7 y8 y9 yA yB yC yD yE yF yG yH yI yJ yK yL yM yN w0 L B n0 g5 d sz fm) (WmuX1 4) ⟨0, 0, A, m, cap, ⟨by omega, by omega, by omega, by rw [show uptoL (flA d) 0 = [] from rfl, List.append_nil]; exact hJ⟩, ?_⟩ (fun a w'' hI => roundX1 hn hs Q0 c1 c2 c7 c8 c9 yO yP yQ yR yS yT yU yV yW yX yY yZ ya yb yc yd ye yf yg yh yi yj yk yl ze zf zg zh zi zj zk zl zm zn zo zp zq zr zt zu ym yn yo yp yq yr yt yu yv yw z0 z1 z2 z3 z4 z5 z6 z7 z8 z9 zA zB zC zD zE zF zG zH zI zJ zK x0 x1 x2 x3 x4 x5 x6 x7 x8 x9 xA xB xC xD xE xF xG xH xI xJ xK xL xM xN xO xP xQ xR xS xT xU xV xW xX xY xZ xa xb xc xd xe xf xg xh xi xj xk xl xm xn xo xp xq xr xt xu xv xw y0 y1 y2 y3 y4 y5 y6 y7 y8 y9 yA yB yC yD yE yF yG yH yI yJ yK yL yM yN hexit hI)
  unfold FRX1
  exact ⟨zv, zw, q0, q1, q2, q3, q4, q5, q6, q7, q8, q9, qA, qB, qC, qD, qE, qF, qG, rfl⟩
end Go.Proofs.Ytopbdiekfhikmaa
namespace Go.Proofs.Ytopbdiekfhikmaa
open Go.RowKit
def flB (d k : Nat) : List RowS := if d = 0 then ([[⟨4261412991, 83, 55, ⟨#[100, 49, 50, 114]⟩, 4, false, false⟩], [⟨4261412991, 134217811, 56, ⟨#[100, 49, 50, 114]⟩, 4, false, false⟩], [⟨4261412991, 268435539, 57, ⟨#[100, 49, 50, 114]⟩, 4, false, false⟩], [⟨4261412991, 402653267, 58, ⟨#[100, 49, 50, 114]⟩, 4, false, false⟩]][k]?).getD [] else ([[⟨4261412991, 33554515, 55, ⟨#[100, 49, 50, 114]⟩, 8, false, false⟩], [⟨4261412991, 167772243, 56, ⟨#[100, 49, 50, 114]⟩, 8, false, false⟩], [⟨4261412991, 301989971, 57, ⟨#[100, 49, 50, 114]⟩, 8, false, false⟩], [⟨4261412991, 436207699, 58, ⟨#[100, 49, 50, 114]⟩, 8, false, false⟩]][k]?).getD []
def loopsOfX2 : Code → List Code
  | .loop c => [c]
  | .seq a b => loopsOfX2 a ++ loopsOfX2 b
  | .block _ c => loopsOfX2 c
  | .scope c => loopsOfX2 c
  | .cond _ a b => loopsOfX2 a ++ loopsOfX2 b
  | _ => []
noncomputable def bodyX2 : Code := ((Try.f43.body.map loopsOfX2).getD []).getD 1 .skip
set_option maxRecDepth 1000000 in
def FRX2 (c1 c2 c3 c5 c6 c9 yO yP yQ yR yS yT yU yV yW yX yY yZ ya yb yc yd ye yf yg yh yi yj zL zM zN zO zP zQ zR zS zT zU zV zW zX zY zZ za zb zc zd yk yl ym yn yo yp yq yr yt yu yv yw z0 z1 z2 z3 z4 z5 z6 z7 z8 z9 zA zB zC zD zE zF zG zH zI zJ zK x0 x1 x2 x3 x4 x5 x6 x7 x8 x9 xA xB xC xD xE xF xG xH xI xJ xK xL xM xN xO xP xQ xR xS xT xU xV xW xX xY xZ xa xb xc xd xe xf xg xh xi xj xk xl xm xn xo xp xq xr xt xu xv xw y0 y1 y2 y3 y4 y5 y6 y7 y8 y9 yA yB yC yD yE yF yG yH yI yJ yK yL yM yN : Value) (A : Option Addr) (m cap : Nat) (ck : Int) (_d : Nat) (sz fv : Int) (a : Act) : Prop := ∃ qH : Value, ∃ qI : Value, ∃ qJ : Value, ∃ qK : Value, ∃ qL : Value, ∃ qM : Value, ∃ qN : Value, ∃ qO : Value, ∃ qP : Value, ∃ qQ : Value, ∃ qR : Value, ∃ qS : Value, ∃ qT : Value, ∃ qU : Value, ∃ qV : Value, ∃ qW : Value, a = ⟨#[.int .i64 sz, c1, c2, c3, .slice A m cap, c5, c6, .int .u32 fv, .int .i64 ck, c9, yO, yP, yQ, yR, yS, yT, yU, yV, yW, yX, yY, yZ, ya, yb, yc, yd, ye, yf, yg, yh, yi, yj, zL, zM, zN, zO, zP, zQ, zR, zS, zT, zU, zV, zW, zX, zY, zZ, za, zb, zc, zd, yk, yl, qH, qI, qJ, qK, qL, qM, qN, qO, qP, qQ, qR, qS, qT, qU, qV, qW, ym, yn, yo, yp, yq, yr, yt, yu, yv, yw, z0, z1, z2, z3, z4, z5, z6, z7, z8, z9, zA, zB, zC, zD, zE, zF, zG, zH, zI, zJ, zK, x0, x1, x2, x3, x4, x5, x6, x7, x8, x9, xA, xB, xC, xD, xE, xF, xG, xH, xI, xJ, xK, xL, xM, xN, xO, xP, xQ, xR, xS, xT, xU, xV, xW, xX, xY, xZ, xa, xb, xc, xd, xe, xf, xg, xh, xi, xj, xk, xl, xm, xn, xo, xp, xq, xr, xt, xu, xv, xw, y0, y1, y2, y3, y4, y5, y6, y7, y8, y9, yA, yB, yC, yD, yE, yF, yG, yH, yI, yJ, yK, yL, yM, yN], []⟩
def WIX2 (c1 c2 c3 c5 c6 c9 yO yP yQ yR yS yT yU yV yW yX yY yZ ya yb yc yd ye yf yg yh yi yj zL zM zN zO zP zQ zR zS zT zU zV zW zX zY zZ za zb zc zd yk yl ym yn yo yp yq yr yt yu yv yw z0 z1 z2 z3 z4 z5 z6 z7 z8 z9 zA zB zC zD zE zF zG zH zI zJ zK x0 x1 x2 x3 x4 x5 x6 x7 x8 x9 xA xB xC xD xE xF xG xH xI xJ xK xL xM xN xO xP xQ xR xS xT xU xV xW xX xY xZ xa xb xc xd xe xf xg xh xi xj xk xl xm xn xo xp xq xr xt xu xv xw y0 y1 y2 y3 y4 y5 y6 y7 y8 y9 yA yB yC yD yE yF yG yH yI yJ yK yL yM yN : Value) (w0 : World) (L : List HP) (B : List RowS) (n0 : Nat) (d : Nat) (sz fv : Int) (a : Act) (wr : World) : Prop := ∃ (k : Nat) (ck : Int) (A : Option Addr) (m cap : Nat), (ck = (k : Int) ∧ k ≤ 4 ∧ m ≤ n0 + 1 * k ∧ Heap w0 wr (HP.slw (.slice A m cap) 7 m (rowsC (B ++ uptoL (flB d) (k))) :: L)) ∧ FRX2 c1 c2 c3 c5 c6 c9 yO yP yQ yR yS yT yU yV yW yX yY yZ ya yb yc yd ye yf yg yh yi yj zL zM zN zO zP zQ zR zS zT zU zV zW zX zY zZ za zb zc zd yk yl ym yn yo yp yq yr yt yu yv yw z0 z1 z2 z3 z4 z5 z6 z7 z8 z9 zA zB zC zD zE zF zG zH zI zJ zK x0 x1 x2 x3 x4 x5 x6 x7 x8 x9 xA xB xC xD xE xF xG xH xI xJ xK xL xM xN xO xP xQ xR xS xT xU xV xW xX xY xZ xa xb xc xd xe xf xg xh xi xj xk xl xm xn xo xp xq xr xt xu xv xw y0 y1 y2 y3 y4 y5 y6 y7 y8 y9 yA yB yC yD yE yF yG yH yI yJ yK yL yM yN A m cap ck d sz fv a
def WXX2 (c1 c2 c3 c5 c6 c9 yO yP yQ yR yS yT yU yV yW yX yY yZ ya yb yc yd ye yf yg yh yi yj zL zM zN zO zP zQ zR zS zT zU zV zW zX zY zZ za zb zc zd yk yl ym yn yo yp yq yr yt yu yv yw z0 z1 z2 z3 z4 z5 z6 z7 z8 z9 zA zB zC zD zE zF zG zH zI zJ zK x0 x1 x2 x3 x4 x5 x6 x7 x8 x9 xA xB xC xD xE xF xG xH xI xJ xK xL xM xN xO xP xQ xR xS xT xU xV xW xX xY xZ xa xb xc xd xe xf xg xh xi xj xk xl xm xn xo xp xq xr xt xu xv xw y0 y1 y2 y3 y4 y5 y6 y7 y8 y9 yA yB yC yD yE yF yG yH yI yJ yK yL yM yN : Value) (w0 : World) (L : List HP) (B : List RowS) (n0 : Nat) (d : Nat) (sz fv : Int) (a : Act) (wr : World) : Prop := ∃ (A : Option Addr) (m cap : Nat), (m ≤ n0 + 4 ∧ Heap w0 wr (HP.slw (.slice A m cap) 7 m (rowsC (B ++ uptoL (flB d) (4))) :: L)) ∧ FRX2 c1 c2 c3 c5 c6 c9 yO yP yQ yR yS yT yU yV yW yX yY yZ ya yb yc yd ye yf yg yh yi yj zL zM zN zO zP zQ zR zS zT zU zV zW zX zY zZ za zb zc zd yk yl ym yn yo yp yq yr yt yu yv yw z0 z1 z2 z3 z4 z5 z6 z7 z8 z9 zA zB zC zD zE zF zG zH zI zJ zK x0 x1 x2 x3 x4 x5 x6 x7 x8 x9 xA xB xC xD xE xF xG xH xI xJ xK xL xM xN xO xP xQ xR xS xT xU xV xW xX xY xZ xa xb xc xd xe xf xg xh xi xj xk xl xm xn xo xp xq xr xt xu xv xw y0 y1 y2 y3 y4 y5 y6 y7 y8 y9 yA yB yC yD yE yF yG yH yI yJ yK yL yM yN A m cap 4 d sz fv a
def WmuX2 (K : Nat) (a : Act) (_ : World) : Nat := K - (intOf (a.tmps.getD 8 undef)).toNat
variable {w0 : World} {L : List HP} {B : List RowS} {n0 : Nat} {d : Nat} {sz fv : Int}
set_option maxRecDepth 1000000 in
set_option maxHeartbeats 8000000 in
theorem oneX2 (hn : n0 ≤ 200) (hs : (d = 0 ∧ sz = 4 ∧ fv = 83) ∨ (d = 1 ∧ sz = 8 ∧ fv = 33554515)) {A : Option Addr} {m cap k : Nat} {ck : Int} (hck : ck = (k : Int)) {wr : World} (hm : m ≤ n0 + 1 * k) (hJ : Heap w0 wr (HP.slw (.slice A m cap) 7 m (rowsC (B ++ uptoL (flB d) (k))) :: L)) (hlt : k < 4) (Q0 : Exit → Act → World → Prop) (c1 c2 c3 c5 c6 c9 yO yP yQ yR yS yT yU yV yW yX yY yZ ya yb yc yd ye yf yg yh yi yj zL zM zN zO zP zQ zR zS zT zU zV zW zX zY zZ za zb zc zd yk yl ym yn yo yp yq yr yt yu yv yw z0 z1 z2 z3 z4 z5 z6 z7 z8 z9 zA zB zC zD zE zF zG zH zI zJ zK x0 x1 x2 x3 x4 x5 x6 x7 x8 x9 xA xB xC xD xE xF xG xH xI xJ xK xL xM xN xO xP xQ xR xS xT xU xV xW xX xY xZ xa xb xc xd xe xf xg xh xi xj xk xl xm xn xo xp xq xr xt xu xv xw y0 y1 y2 y3 y4 y5 y6 y7 y8 y9 yA yB yC yD yE yF yG yH yI yJ yK yL yM yN qH qI qJ qK qL qM qN qO qP qQ qR qS qT qU qV qW : Value) :
    Code.wp Try.prog bodyX2 (Exit.then (fun a' w'' => WIX2 c1 c2 c3 c5 c6 c9 yO yP yQ yR yS yT yU yV yW yX yY yZ ya yb yc yd ye yf yg yh yi yj zL zM zN zO zP zQ zR zS zT zU zV zW zX zY zZ za zb zc zd yk yl ym yn yo yp yq yr yt yu yv yw z0 z1 z2 z3 z4 z5 z6 z7 z8 z9 zA zB zC zD zE zF zG zH zI zJ zK x0 x1 x2 x3 x4 x5 x6 x7 x8 x9 xA xB xC xD xE xF xG xH xI xJ xK xL xM xN xO xP xQ xR xS xT xU xV xW xX xY xZ xa xb xc xd xe xf xg xh xi xj xk xl xm xn xo xp xq xr xt xu xv xw y0 y1 y2 y3 y4 y5 y6 y7 y8 y9 yA yB yC yD yE yF yG yH yI yJ yK yL yM yN w0 L B n0 d sz fv a' w'' ∧ WmuX2 4 a' w'' < 4 - ck.toNat) Q0) ⟨#[.int .i64 sz, c1, c2, c3, .slice A m cap, c5, c6, .int .u32 fv, .int .i64 ck, c9, yO, yP, yQ, yR, yS, yT, yU, yV, yW, yX, yY, yZ, ya, yb, yc, yd, ye, yf, yg, yh, yi, yj, zL, zM, zN, zO, zP, zQ, zR, zS, zT, zU, zV, zW, zX, zY, zZ, za, zb, zc, zd, yk, yl, qH, qI, qJ, qK, qL, qM, qN, qO, qP, qQ, qR, qS, qT, qU, qV, qW, ym, yn, yo, yp, yq, yr, yt, yu, yv, yw, z0, z1, z2, z3, z4, z5, z6, z7, z8, z9, zA, zB, zC, zD, zE, zF, zG, zH, zI, zJ, zK, x0, x1, x2, x3, x4, x5, x6, x7, x8, x9, xA, xB, xC, xD, xE, xF, xG, xH, xI, xJ, xK, xL, xM, xN, xO, xP, xQ, xR, xS, xT, xU, xV, xW, xX, xY, xZ, xa, xb, xc, xd, xe, xf, xg, xh, xi, xj, xk, xl, xm, xn, xo, xp, xq, xr, xt, xu, xv, xw, y0, y1, y2, y3, y4, y5, y6, y7, y8, y9, yA, yB, yC, yD, yE, yF, yG, yH, yI, yJ, yK, yL, yM, yN], []⟩ wr := by
  conv => arg 2; whnf
  have HJ := hide hJ
  clear hJ
  obtain ⟨i1, hi1, hz0, hz1, hz2⟩ := info_parts info49
  obtain ⟨R0, hR0⟩ : ∃ R, (flB d) k = R := ⟨_, rfl⟩
  have HR0 := hide hR0
  clear hR0
  have hc : (k = 0 ∧ ck = 0) ∨ (k = 1 ∧ ck = 1) ∨ (k = 2 ∧ ck = 2) ∨ (k = 3 ∧ ck = 3) := by omega
  clear hlt hck
  rcases hs with ⟨rfl, rfl, rfl⟩ | ⟨rfl, rfl, rfl⟩ <;> rcases hc with ⟨hkv, rfl⟩ | ⟨hkv, rfl⟩ | ⟨hkv, rfl⟩ | ⟨hkv, rfl⟩
  all_goals
    have HKV := hide hkv
    go_wp2_with (at_builtin; refine wpList_append_sl (n := m) (m := 1) rfl _ _ 46 rfl 49 i1 _ 7 48 Try.underlying46 hi1 hz0 hz1 hz2 rfl rfl rfl ((unhide HJ).alloc _).slw (sl_blk (n := 1) (sz := 7) (xs := rowsC R0) (by rw [← unhide HR0, unhide HKV]; exact heap_new' wr _) (by rw [← unhide HR0, unhide HKV]; rfl)) (rowsC_cells _) (by omega) (by omega) ?_; intro v' w7 hsl hgr hblk hsp; obtain ⟨A', cap', rfl, _⟩ := hsl.parts; have hA := hide (((unhide HJ).alloc _).appendw hsl hgr hblk); clear hsl hgr hblk hsp; refine unhide ?_)
    refine hide ?_
    go_wp2
    refine ⟨⟨k + 1, ((k + 1 : Nat) : Int), A', m + 1, cap', ⟨rfl, by have := unhide HKV; omega, by omega, by rw [uptoL_succ, ← List.append_assoc, rowsC_app, unhide HR0]; exact unhide hA⟩, ?_⟩, by simp [WmuX2, intOf]⟩
    unfold FRX2
    obtain rfl := unhide HKV
    refine ⟨_, _, _, _, _, _, _, _, _, _, _, _, _, _, _, _, rfl⟩
set_option maxRecDepth 1000000 in
set_option maxHeartbeats 8000000 in
theorem roundX2 (hn : n0 ≤ 200) (hs : (d = 0 ∧ sz = 4 ∧ fv = 83) ∨ (d = 1 ∧ sz = 8 ∧ fv = 33554515)) (Q0 : Exit → Act → World → Prop) (c1 c2 c3 c5 c6 c9 yO yP yQ yR yS yT yU yV yW yX yY yZ ya yb yc yd ye yf yg yh yi yj zL zM zN zO zP zQ zR zS zT zU zV zW zX zY zZ za zb zc zd yk yl ym yn yo yp yq yr yt yu yv yw z0 z1 z2 z3 z4 z5 z6 z7 z8 z9 zA zB zC zD zE zF zG zH zI zJ zK x0 x1 x2 x3 x4 x5 x6 x7 x8 x9 xA xB xC xD xE xF xG xH xI xJ xK xL xM xN xO xP xQ xR xS xT xU xV xW xX xY xZ xa xb xc xd xe xf xg xh xi xj xk xl xm xn xo xp xq xr xt xu xv xw y0 y1 y2 y3 y4 y5 y6 y7 y8 y9 yA yB yC yD yE yF yG yH yI yJ yK yL yM yN : Value) (hexit : ∀ a' w'', WXX2 c1 c2 c3 c5 c6 c9 yO yP yQ yR yS yT yU yV yW yX yY yZ ya yb yc yd ye yf yg yh yi yj zL zM zN zO zP zQ zR zS zT zU zV zW zX zY zZ za zb zc zd yk yl ym yn yo yp yq yr yt yu yv yw z0 z1 z2 z3 z4 z5 z6 z7 z8 z9 zA zB zC zD zE zF zG zH zI zJ zK x0 x1 x2 x3 x4 x5 x6 x7 x8 x9 xA xB xC xD xE xF xG xH xI xJ xK xL xM xN xO xP xQ xR xS xT xU xV xW xX xY xZ xa xb xc xd xe xf xg xh xi xj xk xl xm xn xo xp xq xr xt xu xv xw y0 y1 y2 y3 y4 y5 y6 y7 y8 y9 yA yB yC yD yE yF yG yH yI yJ yK yL yM yN w0 L B n0 d sz fv a' w'' → Q0 (.exit 2) a' w'') {a : Act} {wr : World} (hI : WIX2 c1 c2 c3 c5 c6 c9 yO yP yQ yR yS yT yU yV yW yX yY yZ ya yb yc yd ye yf yg yh yi yj zL zM zN zO zP zQ zR zS zT zU zV zW zX zY zZ za zb zc zd yk yl ym yn yo yp yq yr yt yu yv yw z0 z1 z2 z3 z4 z5 z6 z7 z8 z9 zA zB zC zD zE zF zG zH zI zJ zK x0 x1 x2 x3 x4 x5 x6 x7 x8 x9 xA xB xC xD xE xF xG xH xI xJ xK xL xM xN xO xP xQ xR xS xT xU xV xW xX xY xZ xa xb xc xd xe xf xg xh xi xj xk xl xm xn xo xp xq xr xt xu xv xw y0 y1 y2 y3 y4 y5 y6 y7 y8 y9 yA yB yC yD yE yF yG yH yI yJ yK yL yM yN w0 L B n0 d sz fv a wr) :
    Code.wp Try.prog bodyX2 (Exit.then (fun a' w'' => WIX2 c1 c2 c3 c5 c6 c9 yO yP yQ yR yS yT yU yV yW yX yY yZ ya yb yc yd ye yf yg yh yi yj zL zM zN zO zP zQ zR zS zT zU zV zW zX zY zZ za zb zc zd yk yl ym yn yo yp yq yr yt yu yv yw z0 z1 z2 z3 z4 z5 z6 z7 z8 z9 zA zB zC zD zE zF zG zH zI zJ zK x0 x1 x2 x3 x4 x5 x6 x7 x8 x9 xA xB xC xD xE xF xG xH xI xJ xK xL xM xN xO xP xQ xR xS xT xU xV xW xX xY xZ xa xb xc xd xe xf xg xh xi xj xk xl xm xn xo xp xq xr xt xu xv xw y0 y1 y2 y3 y4 y5 y6 y7 y8 y9 yA yB yC yD yE yF yG yH yI yJ yK yL yM yN w0 L B n0 d sz fv a' w'' ∧ WmuX2 4 a' w'' < WmuX2 4 a wr) Q0) a wr := by
  obtain ⟨k, ck, A, m, cap, ⟨hck, hk, hm, hJ⟩, hF⟩ := hI
  unfold FRX2 at hF
  obtain ⟨qH, hF⟩ := hF
  obtain ⟨qI, hF⟩ := hF
  obtain ⟨qJ, hF⟩ := hF
  obtain ⟨qK, hF⟩ := hF
  obtain ⟨qL, hF⟩ := hF
  obtain ⟨qM, hF⟩ := hF
  obtain ⟨qN, hF⟩ := hF
  obtain ⟨qO, hF⟩ := hF
  obtain ⟨qP, hF⟩ := hF
  obtain ⟨qQ, hF⟩ := hF
  obtain ⟨qR, hF⟩ := hF
  obtain ⟨qS, hF⟩ := hF
  obtain ⟨qT, hF⟩ := hF
  obtain ⟨qU, hF⟩ := hF
  obtain ⟨qV, hF⟩ := hF
  obtain ⟨qW, hF⟩ := hF
  subst hF
  by_cases hlt : k < 4
  · exact oneX2 hn hs hck hm hJ hlt Q0 _ _ _ _ _ _ _ _ _ _ _ _ _ _ _ _ _ _ _ _ _ _ _ _ _ _ _ _ _ _ _ _ _ _ _ _ _ _ _ _ _ _ _ _ _ _ _ _ _ _ _ _ _ _ _ _ _ _ _ _ _ _ _ _ _ _ _ _ _ _ _ _ _ _ _ _ _ _ _ _ _ _ _ _ _ _ _ _ _ _ _ _ _ _ _ _ _ _ _ _ _ _ _ _ _ _ _ _ _ _ _ _ _ _ _ _ _ _ _ _ _ _ _ _ _ _ _ _ _ _ _ _ _ _ _ _ _ _ _ _ _ _ _ _ _ _ _ _ _ _ _ _ _ _ _ _ _ _ _ _ _ _ _ _ _ _ _ _ _ _ _ _ _ _ _ _ _ _
  · obtain rfl : k = 4 := by omega
    obtain rfl : ck = 4 := by omega
    have HJ := hide hJ
    clear hJ hck
    conv => arg 2; whnf
    go_wp2
    refine ⟨A, m, cap, ⟨by omega, unhide HJ⟩, ?_⟩
    unfold FRX2
    refine ⟨_, _, _, _, _, _, _, _, _, _, _, _, _, _, _, _, rfl⟩
set_option maxRecDepth 1000000 in
theorem loopX2 (hn : n0 ≤ 200) (hs : (d = 0 ∧ sz = 4 ∧ fv = 83) ∨ (d = 1 ∧ sz = 8 ∧ fv = 33554515)) (Q0 : Exit → Act → World → Prop) (c1 c2 c3 c5 c6 c9 yO yP yQ yR yS yT yU yV yW yX yY yZ ya yb yc yd ye yf yg yh yi yj zL zM zN zO zP zQ zR zS zT zU zV zW zX zY zZ za zb zc zd yk yl ym yn yo yp yq yr yt yu yv yw z0 z1 z2 z3 z4 z5 z6 z7 z8 z9 zA zB zC zD zE zF zG zH zI zJ zK x0 x1 x2 x3 x4 x5 x6 x7 x8 x9 xA xB xC xD xE xF xG xH xI xJ xK xL xM xN xO xP xQ xR xS xT xU xV xW xX xY xZ xa xb xc xd xe xf xg xh xi xj xk xl xm xn xo xp xq xr xt xu xv xw y0 y1 y2 y3 y4 y5 y6 y7 y8 y9 yA yB yC yD yE yF yG yH yI yJ yK yL yM yN : Value) {A : Option Addr} {m cap : Nat} {wr : World} (hm : m ≤ n0) (hJ : Heap w0 wr (HP.slw (.slice A m cap) 7 m (rowsC B) :: L)) (qH qI qJ qK qL qM qN qO qP qQ qR qS qT qU qV qW : Value) (hexit : ∀ a' w'', WXX2 c1 c2 c3 c5 c6 c9 yO yP yQ yR yS yT yU yV yW yX yY yZ ya yb yc yd ye yf yg yh yi yj zL zM zN zO zP zQ zR zS zT zU zV zW zX zY zZ za zb zc zd yk yl ym yn yo yp yq yr yt yu yv yw z0 z1 z2 z3 z4 z5 z6 z7 z8 z9 zA zB zC zD zE zF zG zH zI zJ zK x0 x1 x2 x3 x4 x5 x6 x7 x8 x9 xA xB xC xD xE xF xG xH xI xJ xK xL xM xN xO xP xQ xR xS xT xU xV xW xX xY xZ xa xb xc xd xe xf xg xh xi xj xk xl xm xn xo xp xq xr xt xu xv xw y0 y1 y2 y3 y4 y5 y6 y7 y8 y9 yA yB yC yD yE yF yG yH yI yJ yK yL yM yN w0 L B n0 d sz fv a' w'' → Q0 (.exit 2) a' w'') :
    Code.wp Try.prog (Code.loop bodyX2) Q0 ⟨#[.int .i64 sz, c1, c2, c3, .slice A m cap, c5, c6, .int .u32 fv, .int .i64 0, c9, yO, yP, yQ, yR, yS, yT, yU, yV, yW, yX, yY, yZ, ya, yb, yc, yd, ye, yf, yg, yh, yi, yj, zL, zM, zN, zO, zP, zQ, zR, zS, zT, zU, zV, zW, zX, zY, zZ, za, zb, zc, zd, yk, yl, qH, qI, qJ, qK, qL, qM, qN, qO, qP, qQ, qR, qS, qT, qU, qV, qW, ym, yn, yo, yp, yq, yr, yt, yu, yv, yw, z0, z1, z2, z3, z4, z5, z6, z7, z8, z9, zA, zB, zC, zD, zE, zF, zG, zH, zI, zJ, zK, x0, x1, x2, x3, x4, x5, x6, x7, x8, x9, xA, xB, xC, xD, xE, xF, xG, xH, xI, xJ, xK, xL, xM, xN, xO, xP, xQ, xR, xS, xT, xU, xV, xW, xX, xY, xZ, xa, xb, xc, xd, xe, xf, xg, xh, xi, xj, xk, xl, xm, xn, xo, xp, xq, xr, xt, xu, xv, xw, y0, y1, y2, y3, y4, y5, y6, y7, y8, y9, yA, yB, yC, yD, yE, yF, yG, yH, yI, yJ, yK, yL, yM, yN], []⟩ wr := by
  refine wp_loop (WIX2 c1 c2 c3 c5 c6 c9 yO yP yQ yR yS yT yU yV yW yX yY yZ ya yb yc yd ye yf yg yh yi yj zL zM zN zO zP zQ zR zS zT zU zV zW zX zY zZ za zb zc zd yk yl ym yn yo yp yq yr yt yu yv yw z0 z1 z2 z3 z4 z5 z6 z7 z8 z9 zA zB zC zD zE zF zG zH zI zJ zK x0 x1 x2 x3 x4 x5 x6 x7 x8 x9 xA xB xC xD xE xF xG xH xI xJ xK xL xM xN xO xP xQ xR xS xT xU xV xW xX xY xZ xa xb xc xd xe xf xg xh xi xj xk xl xm xn xo xp xq xr xt xu xv xw y0 y1 y2 y3 y4 y5 y6 y7 y8 y9 yA yB yC yD yE yF yG yH yI yJ yK yL yM yN w0 L B n0 d sz fv) (WmuX2 4) ⟨0, 0, A, m, cap, ⟨by omega, by omega, by omega, by rw [show uptoL (flB d) 0 = [] from rfl, List.append_nil]; exact hJ⟩, ?_⟩ (fun a w'' hI => roundX2 hn hs Q0 c1 c2 c3 c5 c6 c9 yO yP yQ yR yS yT yU yV yW yX yY yZ ya yb yc yd ye yf yg yh yi yj zL zM zN zO zP zQ zR zS zT zU zV zW zX zY zZ za zb zc zd yk yl ym yn yo yp yq yr yt yu yv yw z0 z1 z2 z3 z4 z5 z6 z7 z8 z9 zA zB zC zD zE zF zG zH zI zJ zK x0 x1 x2 x3 x4 x5 x6 x7 x8 x9 xA xB xC xD xE xF xG xH xI xJ xK xL xM xN xO xP xQ xR xS xT xU xV xW xX xY xZ xa xb xc xd xe xf xg xh xi xj xk xl xm xn xo xp xq xr xt xu xv xw y0 y1 y2 y3 y4 y5 y6 y7 y8 y9 yA yB yC yD yE yF yG yH yI yJ yK yL yM yN hexit hI)
  unfold FRX2
  exact ⟨qH, qI, qJ, qK, qL, qM, qN, qO, qP, qQ, qR, qS, qT, qU, qV, qW, rfl⟩
end Go.Proofs.Ytopbdiekfhikmaa
