/- Layer 3, the document's side: float: the third loop. / Layer 3, the document's side: float: the fourth loop. -/
import Derived.Test.YtopbdiekfhikmaaW4
import Derived.Deep.CutRange
namespace Go.Proofs.Ytopbdiekfhikmaa
open Go.RowKit
def flC (d k : Nat) : List RowS := if d = 0 then ([[⟨4261441663, 536870995, 64, ⟨#[100, 49, 50]⟩, 4, false, false⟩, ⟨4261441663, 2684362835, 69, ⟨#[100, 49, 50]⟩, 4, false, false⟩, ⟨4261441663, 671088723, 67, ⟨#[100, 49, 50]⟩, 4, false, false⟩], [⟨4261441663, 536875091, 65, ⟨#[100, 49, 50]⟩, 4, false, false⟩, ⟨4261441663, 2684358739, 70, ⟨#[100, 49, 50]⟩, 4, false, false⟩, ⟨4261441663, 671092819, 68, ⟨#[100, 49, 50]⟩, 4, false, false⟩], [⟨4261441663, 536879187, 66, ⟨#[100, 49, 50]⟩, 4, false, false⟩, ⟨4261441663, 2684354643, 71, ⟨#[100, 49, 50]⟩, 4, false, false⟩]][k]?).getD [] else ([[⟨4261441663, 570425427, 64, ⟨#[100, 49, 50]⟩, 8, false, false⟩, ⟨4261441663, 2717917267, 69, ⟨#[100, 49, 50]⟩, 8, false, false⟩, ⟨4261441663, 704643155, 67, ⟨#[100, 49, 50]⟩, 8, false, false⟩], [⟨4261441663, 570429523, 65, ⟨#[100, 49, 50]⟩, 8, false, false⟩, ⟨4261441663, 2717913171, 70, ⟨#[100, 49, 50]⟩, 8, false, false⟩, ⟨4261441663, 704647251, 68, ⟨#[100, 49, 50]⟩, 8, false, false⟩], [⟨4261441663, 570433619, 66, ⟨#[100, 49, 50]⟩, 8, false, false⟩, ⟨4261441663, 2717909075, 71, ⟨#[100, 49, 50]⟩, 8, false, false⟩]][k]?).getD []
def loopsOfX3 : Code → List Code
  | .loop c => [c]
  | .seq a b => loopsOfX3 a ++ loopsOfX3 b
  | .block _ c => loopsOfX3 c
  | .scope c => loopsOfX3 c
  | .cond _ a b => loopsOfX3 a ++ loopsOfX3 b
  | _ => []
noncomputable def bodyX3 : Code := ((Try.f43.body.map loopsOfX3).getD []).getD 2 .skip
set_option maxRecDepth 1000000 in
def FRX3 (c1 c2 c3 c5 c6 c8 zV xT xU xV xW xX xY xZ xa xb xc xd xe xf xg xh xi xj xk xl xm xn xo xp xq xr xt xu xv xw y0 y1 y2 y3 y4 y5 y6 y7 y8 y9 yA yB yC yD yE yF yG yH yI yJ yK yL yM yN yO yP yQ yR yS yT yU yV yW yX yY yZ x0 x1 x2 x3 x4 x5 x6 x7 x8 x9 xA xB xC yu yv yw z0 z1 z2 z3 z4 z5 z6 z7 z8 z9 zA zB zC zD zE zF zG zH zI zJ zK zL zM zN zO zP zQ zR zS zT zU xD xE xF xG xH xI xJ xK xL xM xN xO xP xQ xR xS : Value) (A : Option Addr) (m cap : Nat) (ck : Int) (_d : Nat) (sz fv : Int) (a : Act) : Prop := ∃ qp : Value, ∃ qq : Value, ∃ qr : Value, ∃ qt : Value, ∃ qu : Value, ∃ qv : Value, ∃ qw : Value, ∃ v0 : Value, ∃ v1 : Value, ∃ v2 : Value, ∃ v3 : Value, ∃ v4 : Value, ∃ v5 : Value, ∃ v6 : Value, ∃ v7 : Value, ∃ v8 : Value, ∃ v9 : Value, ∃ vA : Value, ∃ vB : Value, ∃ vC : Value, ∃ vD : Value, ∃ vE : Value, ∃ vF : Value, ∃ vG : Value, ∃ zv : Value, ∃ zw : Value, ∃ q0 : Value, ∃ q1 : Value, ∃ q2 : Value, ∃ q3 : Value, ∃ q4 : Value, ∃ q5 : Value, ∃ q6 : Value, ∃ q7 : Value, ∃ q8 : Value, ∃ q9 : Value, ∃ qA : Value, ∃ qB : Value, ∃ qC : Value, ∃ qD : Value, ∃ qE : Value, ∃ qF : Value, ∃ qG : Value, a = ⟨#[.int .i64 sz, c1, c2, c3, .slice A m cap, c5, c6, .int .u32 fv, c8, .int .u32 ck, zV, xT, xU, xV, xW, xX, xY, xZ, xa, xb, xc, xd, xe, xf, xg, xh, xi, xj, xk, xl, xm, xn, xo, xp, xq, xr, xt, xu, xv, xw, y0, y1, y2, y3, y4, y5, y6, y7, y8, y9, yA, yB, yC, yD, yE, yF, yG, yH, yI, yJ, yK, yL, yM, yN, yO, yP, yQ, yR, yS, yT, yU, yV, yW, yX, yY, yZ, qp, qq, qr, qt, qu, qv, qw, v0, v1, v2, v3, v4, v5, v6, v7, v8, v9, vA, vB, vC, vD, vE, vF, vG, zv, zw, q0, q1, q2, q3, q4, q5, q6, q7, q8, q9, qA, qB, qC, qD, qE, qF, qG, x0, x1, x2, x3, x4, x5, x6, x7, x8, x9, xA, xB, xC, yu, yv, yw, z0, z1, z2, z3, z4, z5, z6, z7, z8, z9, zA, zB, zC, zD, zE, zF, zG, zH, zI, zJ, zK, zL, zM, zN, zO, zP, zQ, zR, zS, zT, zU, xD, xE, xF, xG, xH, xI, xJ, xK, xL, xM, xN, xO, xP, xQ, xR, xS], []⟩
def WIX3 (c1 c2 c3 c5 c6 c8 zV xT xU xV xW xX xY xZ xa xb xc xd xe xf xg xh xi xj xk xl xm xn xo xp xq xr xt xu xv xw y0 y1 y2 y3 y4 y5 y6 y7 y8 y9 yA yB yC yD yE yF yG yH yI yJ yK yL yM yN yO yP yQ yR yS yT yU yV yW yX yY yZ x0 x1 x2 x3 x4 x5 x6 x7 x8 x9 xA xB xC yu yv yw z0 z1 z2 z3 z4 z5 z6 z7 z8 z9 zA zB zC zD zE zF zG zH zI zJ zK zL zM zN zO zP zQ zR zS zT zU xD xE xF xG xH xI xJ xK xL xM xN xO xP xQ xR xS : Value) (w0 : World) (L : List HP) (B : List RowS) (n0 : Nat) (d : Nat) (sz fv : Int) (a : Act) (wr : World) : Prop := ∃ (k : Nat) (ck : Int) (A : Option Addr) (m cap : Nat), (ck = (k : Int) ∧ k ≤ 3 ∧ m ≤ n0 + 3 * k ∧ Heap w0 wr (HP.slw (.slice A m cap) 7 m (rowsC (B ++ uptoL (flC d) (k))) :: L)) ∧ FRX3 c1 c2 c3 c5 c6 c8 zV xT xU xV xW xX xY xZ xa xb xc xd xe xf xg xh xi xj xk xl xm xn xo xp xq xr xt xu xv xw y0 y1 y2 y3 y4 y5 y6 y7 y8 y9 yA yB yC yD yE yF yG yH yI yJ yK yL yM yN yO yP yQ yR yS yT yU yV yW yX yY yZ x0 x1 x2 x3 x4 x5 x6 x7 x8 x9 xA xB xC yu yv yw z0 z1 z2 z3 z4 z5 z6 z7 z8 z9 zA zB zC zD zE zF zG zH zI zJ zK zL zM zN zO zP zQ zR zS zT zU xD xE xF xG xH xI xJ xK xL xM xN xO xP xQ xR xS A m cap ck d sz fv a
def WXX3 (c1 c2 c3 c5 c6 c8 zV xT xU xV xW xX xY xZ xa xb xc xd xe xf xg xh xi xj xk xl xm xn xo xp xq xr xt xu xv xw y0 y1 y2 y3 y4 y5 y6 y7 y8 y9 yA yB yC yD yE yF yG yH yI yJ yK yL yM yN yO yP yQ yR yS yT yU yV yW yX yY yZ x0 x1 x2 x3 x4 x5 x6 x7 x8 x9 xA xB xC yu yv yw z0 z1 z2 z3 z4 z5 z6 z7 z8 z9 zA zB zC zD zE zF zG zH zI zJ zK zL zM zN zO zP zQ zR zS zT zU xD xE xF xG xH xI xJ xK xL xM xN xO xP xQ xR xS : Value) (w0 : World) (L : List HP) (B : List RowS) (n0 : Nat) (d : Nat) (sz fv : Int) (a : Act) (wr : World) : Prop := ∃ (A : Option Addr) (m cap : Nat), (m ≤ n0 + 9 ∧ Heap w0 wr (HP.slw (.slice A m cap) 7 m (rowsC (B ++ uptoL (flC d) (3))) :: L)) ∧ FRX3 c1 c2 c3 c5 c6 c8 zV xT xU xV xW xX xY xZ xa xb xc xd xe xf xg xh xi xj xk xl xm xn xo xp xq xr xt xu xv xw y0 y1 y2 y3 y4 y5 y6 y7 y8 y9 yA yB yC yD yE yF yG yH yI yJ yK yL yM yN yO yP yQ yR yS yT yU yV yW yX yY yZ x0 x1 x2 x3 x4 x5 x6 x7 x8 x9 xA xB xC yu yv yw z0 z1 z2 z3 z4 z5 z6 z7 z8 z9 zA zB zC zD zE zF zG zH zI zJ zK zL zM zN zO zP zQ zR zS zT zU xD xE xF xG xH xI xJ xK xL xM xN xO xP xQ xR xS A m cap 3 d sz fv a
def WmuX3 (K : Nat) (a : Act) (_ : World) : Nat := K - (intOf (a.tmps.getD 9 undef)).toNat
variable {w0 : World} {L : List HP} {B : List RowS} {n0 : Nat} {d : Nat} {sz fv : Int}
set_option maxRecDepth 1000000 in
set_option maxHeartbeats 8000000 in
theorem oneX3 (hn : n0 ≤ 200) (hs : (d = 0 ∧ sz = 4 ∧ fv = 83) ∨ (d = 1 ∧ sz = 8 ∧ fv = 33554515)) {A : Option Addr} {m cap k : Nat} {ck : Int} (hck : ck = (k : Int)) {wr : World} (hm : m ≤ n0 + 3 * k) (hJ : Heap w0 wr (HP.slw (.slice A m cap) 7 m (rowsC (B ++ uptoL (flC d) (k))) :: L)) (hlt : k < 3) (Q0 : Exit → Act → World → Prop) (c1 c2 c3 c5 c6 c8 zV xT xU xV xW xX xY xZ xa xb xc xd xe xf xg xh xi xj xk xl xm xn xo xp xq xr xt xu xv xw y0 y1 y2 y3 y4 y5 y6 y7 y8 y9 yA yB yC yD yE yF yG yH yI yJ yK yL yM yN yO yP yQ yR yS yT yU yV yW yX yY yZ x0 x1 x2 x3 x4 x5 x6 x7 x8 x9 xA xB xC yu yv yw z0 z1 z2 z3 z4 z5 z6 z7 z8 z9 zA zB zC zD zE zF zG zH zI zJ zK zL zM zN zO zP zQ zR zS zT zU xD xE xF xG xH xI xJ xK xL xM xN xO xP xQ xR xS qp qq qr qt qu qv qw v0 v1 v2 v3 v4 v5 v6 v7 v8 v9 vA vB vC vD vE vF vG zv zw q0 q1 q2 q3 q4 q5 q6 q7 q8 q9 qA qB qC qD qE qF qG : Value) :
    Code.wp Try.prog bodyX3 (Exit.then (fun a' w'' => WIX3 c1 c2 c3 c5 c6 c8 zV xT xU xV xW xX xY xZ xa xb xc xd xe xf xg xh xi xj xk xl xm xn xo xp xq xr xt xu xv xw y0 y1 y2 y3 y4 y5 y6 y7 y8 y9 yA yB yC yD yE yF yG yH yI yJ yK yL yM yN yO yP yQ yR yS yT yU yV yW yX yY yZ x0 x1 x2 x3 x4 x5 x6 x7 x8 x9 xA xB xC yu yv yw z0 z1 z2 z3 z4 z5 z6 z7 z8 z9 zA zB zC zD zE zF zG zH zI zJ zK zL zM zN zO zP zQ zR zS zT zU xD xE xF xG xH xI xJ xK xL xM xN xO xP xQ xR xS w0 L B n0 d sz fv a' w'' ∧ WmuX3 3 a' w'' < 3 - ck.toNat) Q0) ⟨#[.int .i64 sz, c1, c2, c3, .slice A m cap, c5, c6, .int .u32 fv, c8, .int .u32 ck, zV, xT, xU, xV, xW, xX, xY, xZ, xa, xb, xc, xd, xe, xf, xg, xh, xi, xj, xk, xl, xm, xn, xo, xp, xq, xr, xt, xu, xv, xw, y0, y1, y2, y3, y4, y5, y6, y7, y8, y9, yA, yB, yC, yD, yE, yF, yG, yH, yI, yJ, yK, yL, yM, yN, yO, yP, yQ, yR, yS, yT, yU, yV, yW, yX, yY, yZ, qp, qq, qr, qt, qu, qv, qw, v0, v1, v2, v3, v4, v5, v6, v7, v8, v9, vA, vB, vC, vD, vE, vF, vG, zv, zw, q0, q1, q2, q3, q4, q5, q6, q7, q8, q9, qA, qB, qC, qD, qE, qF, qG, x0, x1, x2, x3, x4, x5, x6, x7, x8, x9, xA, xB, xC, yu, yv, yw, z0, z1, z2, z3, z4, z5, z6, z7, z8, z9, zA, zB, zC, zD, zE, zF, zG, zH, zI, zJ, zK, zL, zM, zN, zO, zP, zQ, zR, zS, zT, zU, xD, xE, xF, xG, xH, xI, xJ, xK, xL, xM, xN, xO, xP, xQ, xR, xS], []⟩ wr := by
  conv => arg 2; whnf
  have HJ := hide hJ
  clear hJ
  obtain ⟨i1, hi1, hz0, hz1, hz2⟩ := info_parts info49
  by_cases h9 : k ≤ 1
  · obtain ⟨R0, hR0⟩ : ∃ R, ((flC d) k).take 2 = R := ⟨_, rfl⟩
    have HR0 := hide hR0
    clear hR0
    obtain ⟨R1, hR1⟩ : ∃ R, ((flC d) k).drop 2 = R := ⟨_, rfl⟩
    have HR1 := hide hR1
    clear hR1
    have HRR := hide (show (flC d) k = R0 ++ R1 by rw [← unhide HR0, ← unhide HR1, List.take_append_drop])
    have hc : (k = 0 ∧ ck = 0) ∨ (k = 1 ∧ ck = 1) := by omega
    clear hlt hck
    rcases hs with ⟨rfl, rfl, rfl⟩ | ⟨rfl, rfl, rfl⟩ <;> rcases hc with ⟨hkv, rfl⟩ | ⟨hkv, rfl⟩
    all_goals
      have HKV := hide hkv
      go_wp2_with (at_builtin; refine wpList_append_sl (n := m) (m := 2) rfl _ _ 46 rfl 49 i1 _ 7 48 Try.underlying46 hi1 hz0 hz1 hz2 rfl rfl rfl ((unhide HJ).alloc _).slw (sl_blk (n := 2) (sz := 7) (xs := rowsC R0) (by rw [← unhide HR0, unhide HKV]; exact heap_new' wr _) (by rw [← unhide HR0, unhide HKV]; rfl)) (rowsC_cells _) (by omega) (by omega) ?_; intro v' w7 hsl hgr hblk hsp; obtain ⟨A', cap', rfl, _⟩ := hsl.parts; have hA := hide (((unhide HJ).alloc _).appendw hsl hgr hblk); clear hsl hgr hblk hsp; refine unhide ?_)
      refine hide ?_
      go_wp2_with (at_builtin; refine wpList_append_sl (n := m + 2) (m := 1) rfl _ _ 46 rfl 49 i1 _ 7 48 Try.underlying46 hi1 hz0 hz1 hz2 rfl rfl rfl ((unhide hA).alloc _).slw (sl_blk (n := 1) (sz := 7) (xs := rowsC R1) (by rw [← unhide HR1, unhide HKV]; exact heap_new' w7 _) (by rw [← unhide HR1, unhide HKV]; rfl)) (rowsC_cells _) (by omega) (by omega) ?_; intro v' w8 hsl hgr hblk hsp; obtain ⟨A', cap', rfl, _⟩ := hsl.parts; have hA := hide (((unhide hA).alloc _).appendw hsl hgr hblk); clear hsl hgr hblk hsp; refine unhide ?_)
      refine hide ?_
      go_wp2
      refine ⟨⟨k + 1, ((k + 1 : Nat) : Int), A', m + 3, cap', ⟨rfl, by have := unhide HKV; omega, by omega, by rw [uptoL_succ, ← List.append_assoc, rowsC_app, unhide HRR, rowsC_app R0, ← List.append_assoc]; exact unhide hA⟩, ?_⟩, by simp [WmuX3, intOf]⟩
      unfold FRX3
      obtain rfl := unhide HKV
      refine ⟨_, _, _, _, _, _, _, _, _, _, _, _, _, _, _, _, _, _, _, _, _, _, _, _, _, _, _, _, _, _, _, _, _, _, _, _, _, _, _, _, _, _, _, rfl⟩
  · obtain ⟨R0, hR0⟩ : ∃ R, (flC d) k = R := ⟨_, rfl⟩
    have HR0 := hide hR0
    clear hR0
    have hc : (k = 2 ∧ ck = 2) := by omega
    clear hlt hck
    rcases hs with ⟨rfl, rfl, rfl⟩ | ⟨rfl, rfl, rfl⟩ <;> rcases hc with ⟨hkv, rfl⟩
    all_goals
      have HKV := hide hkv
      go_wp2_with (at_builtin; refine wpList_append_sl (n := m) (m := 2) rfl _ _ 46 rfl 49 i1 _ 7 48 Try.underlying46 hi1 hz0 hz1 hz2 rfl rfl rfl ((unhide HJ).alloc _).slw (sl_blk (n := 2) (sz := 7) (xs := rowsC R0) (by rw [← unhide HR0, unhide HKV]; exact heap_new' wr _) (by rw [← unhide HR0, unhide HKV]; rfl)) (rowsC_cells _) (by omega) (by omega) ?_; intro v' w7 hsl hgr hblk hsp; obtain ⟨A', cap', rfl, _⟩ := hsl.parts; have hA := hide (((unhide HJ).alloc _).appendw hsl hgr hblk); clear hsl hgr hblk hsp; refine unhide ?_)
      refine hide ?_
      go_wp2
      refine ⟨⟨k + 1, ((k + 1 : Nat) : Int), A', m + 2, cap', ⟨rfl, by have := unhide HKV; omega, by omega, by rw [uptoL_succ, ← List.append_assoc, rowsC_app, unhide HR0]; exact unhide hA⟩, ?_⟩, by simp [WmuX3, intOf]⟩
      unfold FRX3
      obtain rfl := unhide HKV
      refine ⟨_, _, _, _, _, _, _, _, _, _, _, _, _, _, _, _, _, _, _, _, _, _, _, _, _, _, _, _, _, _, _, _, _, _, _, _, _, _, _, _, _, _, _, rfl⟩
set_option maxRecDepth 1000000 in
set_option maxHeartbeats 8000000 in
theorem roundX3 (hn : n0 ≤ 200) (hs : (d = 0 ∧ sz = 4 ∧ fv = 83) ∨ (d = 1 ∧ sz = 8 ∧ fv = 33554515)) (Q0 : Exit → Act → World → Prop) (c1 c2 c3 c5 c6 c8 zV xT xU xV xW xX xY xZ xa xb xc xd xe xf xg xh xi xj xk xl xm xn xo xp xq xr xt xu xv xw y0 y1 y2 y3 y4 y5 y6 y7 y8 y9 yA yB yC yD yE yF yG yH yI yJ yK yL yM yN yO yP yQ yR yS yT yU yV yW yX yY yZ x0 x1 x2 x3 x4 x5 x6 x7 x8 x9 xA xB xC yu yv yw z0 z1 z2 z3 z4 z5 z6 z7 z8 z9 zA zB zC zD zE zF zG zH zI zJ zK zL zM zN zO zP zQ zR zS zT zU xD xE xF xG xH xI xJ xK xL xM xN xO xP xQ xR xS : Value) (hexit : ∀ a' w'', WXX3 c1 c2 c3 c5 c6 c8 zV xT xU xV xW xX xY xZ xa xb xc xd xe xf xg xh xi xj xk xl xm xn xo xp xq xr xt xu xv xw y0 y1 y2 y3 y4 y5 y6 y7 y8 y9 yA yB yC yD yE yF yG yH yI yJ yK yL yM yN yO yP yQ yR yS yT yU yV yW yX yY yZ x0 x1 x2 x3 x4 x5 x6 x7 x8 x9 xA xB xC yu yv yw z0 z1 z2 z3 z4 z5 z6 z7 z8 z9 zA zB zC zD zE zF zG zH zI zJ zK zL zM zN zO zP zQ zR zS zT zU xD xE xF xG xH xI xJ xK xL xM xN xO xP xQ xR xS w0 L B n0 d sz fv a' w'' → Q0 (.exit 4) a' w'') {a : Act} {wr : World} (hI : WIX3 c1 c2 c3 c5 c6 c8 zV xT xU xV xW xX xY xZ xa xb xc xd xe xf xg xh xi xj xk xl xm xn xo xp xq xr xt xu xv xw y0 y1 y2 y3 y4 y5 y6 y7 y8 y9 yA yB yC yD yE yF yG yH yI yJ yK yL yM yN yO yP yQ yR yS yT yU yV yW yX yY yZ x0 x1 x2 x3 x4 x5 x6 x7 x8 x9 xA xB xC yu yv yw z0 z1 z2 z3 z4 z5 z6 z7 z8 z9 zA zB zC zD zE zF zG zH zI zJ zK zL zM zN zO zP zQ zR zS zT zU xD xE xF xG xH xI xJ xK xL xM xN xO xP xQ xR xS w0 L B n0 d sz fv a wr) :
    Code.wp Try.prog bodyX3 (Exit.then (fun a' w'' => WIX3 c1 c2 c3 c5 c6 c8 zV xT xU xV xW xX xY xZ xa xb xc xd xe xf xg xh xi xj xk xl xm xn xo xp xq xr xt xu xv xw y0 y1 y2 y3 y4 y5 y6 y7 y8 y9 yA yB yC yD yE yF yG yH yI yJ yK yL yM yN yO yP yQ yR yS yT yU yV yW yX yY yZ x0 x1 x2 x3 x4 x5 x6 x7 x8 x9 xA xB xC yu yv yw z0 z1 z2 z3 z4 z5 z6 z7 z8 z9 zA zB zC zD zE zF zG zH zI zJ zK zL zM zN zO zP zQ zR zS zT zU xD xE xF xG xH xI xJ xK xL xM xN xO xP xQ xR xS w0 L B n0 d sz fv a' w'' ∧ WmuX3 3 a' w'' < WmuX3 3 a wr) Q0) a wr := by
  obtain ⟨k, ck, A, m, cap, ⟨hck, hk, hm, hJ⟩, hF⟩ := hI
  unfold FRX3 at hF
  obtain ⟨qp, hF⟩ := hF
  obtain ⟨qq, hF⟩ := hF
  obtain ⟨qr, hF⟩ := hF
  obtain ⟨qt, hF⟩ := hF
  obtain ⟨qu, hF⟩ := hF
  obtain ⟨qv, hF⟩ := hF
  obtain ⟨qw, hF⟩ := hF
  obtain ⟨v0, hF⟩ := hF
  obtain ⟨v1, hF⟩ := hF
  obtain ⟨v2, hF⟩ := hF
  obtain ⟨v3, hF⟩ := hF
  obtain ⟨v4, hF⟩ := hF
  obtain ⟨v5, hF⟩ := hF
  obtain ⟨v6, hF⟩ := hF
  obtain ⟨v7, hF⟩ := hF
  obtain ⟨v8, hF⟩ := hF
  obtain ⟨v9, hF⟩ := hF
  obtain ⟨vA, hF⟩ := hF
  obtain ⟨vB, hF⟩ := hF
  obtain ⟨vC, hF⟩ := hF
  obtain ⟨vD, hF⟩ := hF
  obtain ⟨vE, hF⟩ := hF
  obtain ⟨vF, hF⟩ := hF
  obtain ⟨vG, hF⟩ := hF
  obtain ⟨zv, hF⟩ := hF
  obtain ⟨zw, hF⟩ := hF
  obtain ⟨q0, hF⟩ := hF
  obtain ⟨q1, hF⟩ := hF
  obtain ⟨q2, hF⟩ := hF
  obtain ⟨q3, hF⟩ := hF
  obtain ⟨q4, hF⟩ := hF
  obtain ⟨q5, hF⟩ := hF
  obtain ⟨q6, hF⟩ := hF
  obtain ⟨q7, hF⟩ := hF
  obtain ⟨q8, hF⟩ := hF
  obtain ⟨q9, hF⟩ := hF
  obtain ⟨qA, hF⟩ := hF
  obtain ⟨qB, hF⟩ := hF
  obtain ⟨qC, hF⟩ := hF
  obtain ⟨qD, hF⟩ := hF
  obtain ⟨qE, hF⟩ := hF
  obtain ⟨qF, hF⟩ := hF
  obtain ⟨qG, hF⟩ := hF
  subst hF
  by_cases hlt : k < 3
  · exact oneX3 hn hs hck hm hJ hlt Q0 _ _ _ _ _ _ _ _ _ _ _ _ _ _ _ _ _ _ _ _ _ _ _ _ _ _ _ _ _ _ _ _ _ _ _ _ _ _ _ _ _ _ _ _ _ _ _ _ _ _ _ _ _ _ _ _ _ _ _ _ _ _ _ _ _ _ _ _ _ _ _ _ _ _ _ _ _ _ _ _ _ _ _ _ _ _ _ _ _ _ _ _ _ _ _ _ _ _ _ _ _ _ _ _ _ _ _ _ _ _ _ _ _ _ _ _ _ _ _ _ _ _ _ _ _ _ _ _ _ _ _ _ _ _ _ _ _ _ _ _ _ _ _ _ _ _ _ _ _ _ _ _ _ _ _ _ _ _ _ _ _ _ _ _ _ _ _ _ _ _ _ _ _ _ _ _ _ _
  · obtain rfl : k = 3 := by omega
    obtain rfl : ck = 3 := by omega
    have HJ := hide hJ
    clear hJ hck
    conv => arg 2; whnf
    go_wp2
    refine ⟨A, m, cap, ⟨by omega, unhide HJ⟩, ?_⟩
    unfold FRX3
    refine ⟨_, _, _, _, _, _, _, _, _, _, _, _, _, _, _, _, _, _, _, _, _, _, _, _, _, _, _, _, _, _, _, _, _, _, _, _, _, _, _, _, _, _, _, rfl⟩
set_option maxRecDepth 1000000 in
theorem loopX3 (hn : n0 ≤ 200) (hs : (d = 0 ∧ sz = 4 ∧ fv = 83) ∨ (d = 1 ∧ sz = 8 ∧ fv = 33554515)) (Q0 : Exit → Act → World → Prop) (c1 c2 c3 c5 c6 c8 zV xT xU xV xW xX xY xZ xa xb xc xd xe xf xg xh xi xj xk xl xm xn xo xp xq xr xt xu xv xw y0 y1 y2 y3 y4 y5 y6 y7 y8 y9 yA yB yC yD yE yF yG yH yI yJ yK yL yM yN yO yP yQ yR yS yT yU yV yW yX yY yZ x0 x1 x2 x3 x4 x5 x6 x7 x8 x9 xA xB xC yu yv yw z0 z1 z2 z3 z4 z5 z6 z7 z8 z9 zA zB zC zD zE zF zG zH zI zJ zK zL zM zN zO zP zQ zR zS zT zU xD xE xF xG xH xI xJ xK xL xM xN xO xP xQ xR xS : Value) {A : Option Addr} {m cap : Nat} {wr : World} (hm : m ≤ n0) (hJ : Heap w0 wr (HP.slw (.slice A m cap) 7 m (rowsC B) :: L)) (qp qq qr qt qu qv qw v0 v1 v2 v3 v4 v5 v6 v7 v8 v9 vA vB vC vD vE vF vG zv zw q0 q1 q2 q3 q4 q5 q6 q7 q8 q9 qA qB qC qD qE qF qG : Value) (hexit : ∀ a' w'', WXX3 c1 c2 c3 c5 c6 c8 zV xT xU xV xW xX xY xZ xa xb xc xd xe xf xg xh xi xj xk xl xm xn xo xp xq xr xt xu xv xw y0 y1 y2 y3 y4 y5 y6 y7 y8 y9 yA yB yC yD yE yF yG yH yI yJ yK yL yM yN yO yP yQ yR yS yT yU yV yW yX yY yZ x0 x1 x2 x3 x4 x5 x6 x7 x8 x9 xA xB xC yu yv yw z0 z1 z2 z3 z4 z5 z6 z7 z8 z9 zA zB zC zD zE zF zG zH zI zJ zK zL zM zN zO zP zQ zR zS zT zU xD xE xF xG xH xI xJ xK xL xM xN xO xP xQ xR xS w0 L B n0 d sz fv a' w'' → Q0 (.exit 4) a' w'') :
    Code.wp Try.prog (Code.loop bodyX3) Q0 ⟨#[.int .i64 sz, c1, c2, c3, .slice A m cap, c5, c6, .int .u32 fv, c8, .int .u32 0, zV, xT, xU, xV, xW, xX, xY, xZ, xa, xb, xc, xd, xe, xf, xg, xh, xi, xj, xk, xl, xm, xn, xo, xp, xq, xr, xt, xu, xv, xw, y0, y1, y2, y3, y4, y5, y6, y7, y8, y9, yA, yB, yC, yD, yE, yF, yG, yH, yI, yJ, yK, yL, yM, yN, yO, yP, yQ, yR, yS, yT, yU, yV, yW, yX, yY, yZ, qp, qq, qr, qt, qu, qv, qw, v0, v1, v2, v3, v4, v5, v6, v7, v8, v9, vA, vB, vC, vD, vE, vF, vG, zv, zw, q0, q1, q2, q3, q4, q5, q6, q7, q8, q9, qA, qB, qC, qD, qE, qF, qG, x0, x1, x2, x3, x4, x5, x6, x7, x8, x9, xA, xB, xC, yu, yv, yw, z0, z1, z2, z3, z4, z5, z6, z7, z8, z9, zA, zB, zC, zD, zE, zF, zG, zH, zI, zJ, zK, zL, zM, zN, zO, zP, zQ, zR, zS, zT, zU, xD, xE, xF, xG, xH, xI, xJ, xK, xL, xM, xN, xO, xP, xQ, xR, xS], []⟩ wr := by
  refine wp_loop (WIX3 c1 c2 c3 c5 c6 c8 zV xT xU xV xW xX xY xZ xa xb xc xd xe xf xg xh xi xj xk xl xm xn xo xp xq xr xt xu xv xw y0 y1 y2 y3 y4 y5 y6 y7 y8 y9 yA yB yC yD yE yF yG yH yI yJ yK yL yM yN yO yP yQ yR yS yT yU yV yW yX yY yZ x0 x1 x2 x3 x4 x5 x6 x7 x8 x9 xA xB xC yu yv yw z0 z1 z2 z3 z4 z5 z6 z7 z8 z9 zA zB zC zD zE zF zG zH zI zJ zK zL zM zN zO zP zQ zR zS zT zU xD xE xF xG xH xI xJ xK xL xM xN xO xP xQ xR xS w0 L B n0 d sz fv) (WmuX3 3) ⟨0, 0, A, m, cap, ⟨by omega, by omega, by omega, by rw [show uptoL (flC d) 0 = [] from rfl, List.append_nil]; exact hJ⟩, ?_⟩ (fun a w'' hI => roundX3 hn hs Q0 c1 c2 c3 c5 c6 c8 zV xT xU xV xW xX xY xZ xa xb xc xd xe xf xg xh xi xj xk xl xm xn xo xp xq xr xt xu xv xw y0 y1 y2 y3 y4 y5 y6 y7 y8 y9 yA yB yC yD yE yF yG yH yI yJ yK yL yM yN yO yP yQ yR yS yT yU yV yW yX yY yZ x0 x1 x2 x3 x4 x5 x6 x7 x8 x9 xA xB xC yu yv yw z0 z1 z2 z3 z4 z5 z6 z7 z8 z9 zA zB zC zD zE zF zG zH zI zJ zK zL zM zN zO zP zQ zR zS zT zU xD xE xF xG xH xI xJ xK xL xM xN xO xP xQ xR xS hexit hI)
  unfold FRX3
  exact ⟨qp, qq, qr, qt, qu, qv, qw, v0, v1, v2, v3, v4, v5, v6, v7, v8, v9, vA, vB, vC, vD, vE, vF, vG, zv, zw, q0, q1, q2, q3, q4, q5, q6, q7, q8, q9, qA, qB, qC, qD, qE, qF, qG, rfl⟩
end Go.Proofs.Ytopbdiekfhikmaa
namespace Go.Proofs.Ytopbdiekfhikmaa
open Go.RowKit
def flD (d k : Nat) : List RowS := if d = 0 then ([[⟨4293918847, 3221225555, 73, ⟨#[100, 49, 114]⟩, 4, true, false⟩, ⟨4293918847, 3489661011, 74, ⟨#[100, 49, 114]⟩, 4, true, false⟩], [⟨4293918847, 3222274131, 73, ⟨#[100, 49, 114]⟩, 4, true, true⟩, ⟨4293918847, 3490709587, 74, ⟨#[100, 49, 114]⟩, 4, true, true⟩], [⟨4293918847, 3223322707, 73, ⟨#[100, 49, 114]⟩, 4, false, false⟩, ⟨4293918847, 3491758163, 74, ⟨#[100, 49, 114]⟩, 4, false, false⟩], [⟨4293918847, 3224371283, 73, ⟨#[100, 49, 114]⟩, 4, false, true⟩, ⟨4293918847, 3492806739, 74, ⟨#[100, 49, 114]⟩, 4, false, true⟩]][k]?).getD [] else ([[⟨4293918847, 3254779987, 73, ⟨#[100, 49, 114]⟩, 8, true, false⟩, ⟨4293918847, 3523215443, 74, ⟨#[100, 49, 114]⟩, 8, true, false⟩], [⟨4293918847, 3255828563, 73, ⟨#[100, 49, 114]⟩, 8, true, true⟩, ⟨4293918847, 3524264019, 74, ⟨#[100, 49, 114]⟩, 8, true, true⟩], [⟨4293918847, 3256877139, 73, ⟨#[100, 49, 114]⟩, 8, false, false⟩, ⟨4293918847, 3525312595, 74, ⟨#[100, 49, 114]⟩, 8, false, false⟩], [⟨4293918847, 3257925715, 73, ⟨#[100, 49, 114]⟩, 8, false, true⟩, ⟨4293918847, 3526361171, 74, ⟨#[100, 49, 114]⟩, 8, false, true⟩]][k]?).getD []
def loopsOfX4 : Code → List Code
  | .loop c => [c]
  | .seq a b => loopsOfX4 a ++ loopsOfX4 b
  | .block _ c => loopsOfX4 c
  | .scope c => loopsOfX4 c
  | .cond _ a b => loopsOfX4 a ++ loopsOfX4 b
  | _ => []
noncomputable def bodyX4 : Code := ((Try.f43.body.map loopsOfX4).getD []).getD 3 .skip
set_option maxRecDepth 1000000 in
def FRX4 (c1 c2 c3 c5 c6 c8 c9 xT xU xV xW xX xY xZ xa xb xc xd xe xf xg xh xi xj xk xl xm xn xo xp xq xr xt xu xv xw y0 y1 y2 y3 y4 y5 y6 y7 y8 y9 yA yB yC yD yE yF yG yH yI yJ yK yL yM yN yO yP yQ yR yS yT yU yV yW yX yY yZ zW zX zY zZ za zb zc zd ze zf zg zh zi zj zk zl zm zn zo zp zq zr zt zu ya yb yc yd ye yf yg yh yi yj yk yl ym yn yo yp yq yr yt x0 x1 x2 x3 x4 x5 x6 x7 x8 x9 xA xB xC xD xE xF xG xH xI xJ xK xL xM xN xO xP xQ xR xS : Value) (A : Option Addr) (m cap : Nat) (ck : Int) (_d : Nat) (sz fv : Int) (a : Act) : Prop := ∃ qH : Value, ∃ qI : Value, ∃ qJ : Value, ∃ qK : Value, ∃ qL : Value, ∃ qM : Value, ∃ qN : Value, ∃ qO : Value, ∃ qP : Value, ∃ qQ : Value, ∃ qR : Value, ∃ qS : Value, ∃ qT : Value, ∃ qU : Value, ∃ qV : Value, ∃ qW : Value, ∃ qX : Value, ∃ qY : Value, ∃ qZ : Value, ∃ qa : Value, ∃ qb : Value, ∃ qc : Value, ∃ qd : Value, ∃ qe : Value, ∃ qf : Value, ∃ qg : Value, ∃ qh : Value, ∃ qi : Value, ∃ qj : Value, ∃ qk : Value, ∃ ql : Value, ∃ qm : Value, ∃ qn : Value, ∃ qo : Value, a = ⟨#[.int .i64 sz, c1, c2, c3, .slice A m cap, c5, c6, .int .u32 fv, c8, c9, .int .u32 ck, xT, xU, xV, xW, xX, xY, xZ, xa, xb, xc, xd, xe, xf, xg, xh, xi, xj, xk, xl, xm, xn, xo, xp, xq, xr, xt, xu, xv, xw, y0, y1, y2, y3, y4, y5, y6, y7, y8, y9, yA, yB, yC, yD, yE, yF, yG, yH, yI, yJ, yK, yL, yM, yN, yO, yP, yQ, yR, yS, yT, yU, yV, yW, yX, yY, yZ, zW, zX, zY, zZ, za, zb, zc, zd, ze, zf, zg, zh, zi, zj, zk, zl, zm, zn, zo, zp, zq, zr, zt, zu, ya, yb, yc, yd, ye, yf, yg, yh, yi, yj, yk, yl, ym, yn, yo, yp, yq, yr, yt, x0, x1, x2, x3, x4, x5, x6, x7, x8, x9, xA, xB, xC, qH, qI, qJ, qK, qL, qM, qN, qO, qP, qQ, qR, qS, qT, qU, qV, qW, qX, qY, qZ, qa, qb, qc, qd, qe, qf, qg, qh, qi, qj, qk, ql, qm, qn, qo, xD, xE, xF, xG, xH, xI, xJ, xK, xL, xM, xN, xO, xP, xQ, xR, xS], []⟩
def WIX4 (c1 c2 c3 c5 c6 c8 c9 xT xU xV xW xX xY xZ xa xb xc xd xe xf xg xh xi xj xk xl xm xn xo xp xq xr xt xu xv xw y0 y1 y2 y3 y4 y5 y6 y7 y8 y9 yA yB yC yD yE yF yG yH yI yJ yK yL yM yN yO yP yQ yR yS yT yU yV yW yX yY yZ zW zX zY zZ za zb zc zd ze zf zg zh zi zj zk zl zm zn zo zp zq zr zt zu ya yb yc yd ye yf yg yh yi yj yk yl ym yn yo yp yq yr yt x0 x1 x2 x3 x4 x5 x6 x7 x8 x9 xA xB xC xD xE xF xG xH xI xJ xK xL xM xN xO xP xQ xR xS : Value) (w0 : World) (L : List HP) (B : List RowS) (n0 : Nat) (d : Nat) (sz fv : Int) (a : Act) (wr : World) : Prop := ∃ (k : Nat) (ck : Int) (A : Option Addr) (m cap : Nat), (ck = (k : Int) ∧ k ≤ 4 ∧ m ≤ n0 + 2 * k ∧ Heap w0 wr (HP.slw (.slice A m cap) 7 m (rowsC (B ++ uptoL (flD d) (k))) :: L)) ∧ FRX4 c1 c2 c3 c5 c6 c8 c9 xT xU xV xW xX xY xZ xa xb xc xd xe xf xg xh xi xj xk xl xm xn xo xp xq xr xt xu xv xw y0 y1 y2 y3 y4 y5 y6 y7 y8 y9 yA yB yC yD yE yF yG yH yI yJ yK yL yM yN yO yP yQ yR yS yT yU yV yW yX yY yZ zW zX zY zZ za zb zc zd ze zf zg zh zi zj zk zl zm zn zo zp zq zr zt zu ya yb yc yd ye yf yg yh yi yj yk yl ym yn yo yp yq yr yt x0 x1 x2 x3 x4 x5 x6 x7 x8 x9 xA xB xC xD xE xF xG xH xI xJ xK xL xM xN xO xP xQ xR xS A m cap ck d sz fv a
def WXX4 (c1 c2 c3 c5 c6 c8 c9 xT xU xV xW xX xY xZ xa xb xc xd xe xf xg xh xi xj xk xl xm xn xo xp xq xr xt xu xv xw y0 y1 y2 y3 y4 y5 y6 y7 y8 y9 yA yB yC yD yE yF yG yH yI yJ yK yL yM yN yO yP yQ yR yS yT yU yV yW yX yY yZ zW zX zY zZ za zb zc zd ze zf zg zh zi zj zk zl zm zn zo zp zq zr zt zu ya yb yc yd ye yf yg yh yi yj yk yl ym yn yo yp yq yr yt x0 x1 x2 x3 x4 x5 x6 x7 x8 x9 xA xB xC xD xE xF xG xH xI xJ xK xL xM xN xO xP xQ xR xS : Value) (w0 : World) (L : List HP) (B : List RowS) (n0 : Nat) (d : Nat) (sz fv : Int) (a : Act) (wr : World) : Prop := ∃ (A : Option Addr) (m cap : Nat), (m ≤ n0 + 8 ∧ Heap w0 wr (HP.slw (.slice A m cap) 7 m (rowsC (B ++ uptoL (flD d) (4))) :: L)) ∧ FRX4 c1 c2 c3 c5 c6 c8 c9 xT xU xV xW xX xY xZ xa xb xc xd xe xf xg xh xi xj xk xl xm xn xo xp xq xr xt xu xv xw y0 y1 y2 y3 y4 y5 y6 y7 y8 y9 yA yB yC yD yE yF yG yH yI yJ yK yL yM yN yO yP yQ yR yS yT yU yV yW yX yY yZ zW zX zY zZ za zb zc zd ze zf zg zh zi zj zk zl zm zn zo zp zq zr zt zu ya yb yc yd ye yf yg yh yi yj yk yl ym yn yo yp yq yr yt x0 x1 x2 x3 x4 x5 x6 x7 x8 x9 xA xB xC xD xE xF xG xH xI xJ xK xL xM xN xO xP xQ xR xS A m cap 4 d sz fv a
def WmuX4 (K : Nat) (a : Act) (_ : World) : Nat := K - (intOf (a.tmps.getD 10 undef)).toNat
variable {w0 : World} {L : List HP} {B : List RowS} {n0 : Nat} {d : Nat} {sz fv : Int}
set_option maxRecDepth 1000000 in
set_option maxHeartbeats 8000000 in
theorem oneX4 (hn : n0 ≤ 200) (hs : (d = 0 ∧ sz = 4 ∧ fv = 83) ∨ (d = 1 ∧ sz = 8 ∧ fv = 33554515)) {A : Option Addr} {m cap k : Nat} {ck : Int} (hck : ck = (k : Int)) {wr : World} (hm : m ≤ n0 + 2 * k) (hJ : Heap w0 wr (HP.slw (.slice A m cap) 7 m (rowsC (B ++ uptoL (flD d) (k))) :: L)) (hlt : k < 4) (Q0 : Exit → Act → World → Prop) (c1 c2 c3 c5 c6 c8 c9 xT xU xV xW xX xY xZ xa xb xc xd xe xf xg xh xi xj xk xl xm xn xo xp xq xr xt xu xv xw y0 y1 y2 y3 y4 y5 y6 y7 y8 y9 yA yB yC yD yE yF yG yH yI yJ yK yL yM yN yO yP yQ yR yS yT yU yV yW yX yY yZ zW zX zY zZ za zb zc zd ze zf zg zh zi zj zk zl zm zn zo zp zq zr zt zu ya yb yc yd ye yf yg yh yi yj yk yl ym yn yo yp yq yr yt x0 x1 x2 x3 x4 x5 x6 x7 x8 x9 xA xB xC xD xE xF xG xH xI xJ xK xL xM xN xO xP xQ xR xS qH qI qJ qK qL qM qN qO qP qQ qR qS qT qU qV qW qX qY qZ qa qb qc qd qe qf qg qh qi qj qk ql qm qn qo : Value) :
    Code.wp Try.prog bodyX4 (Exit.then (fun a' w'' => WIX4 c1 c2 c3 c5 c6 c8 c9 xT xU xV xW xX xY xZ xa xb xc xd xe xf xg xh xi xj xk xl xm xn xo xp xq xr xt xu xv xw y0 y1 y2 y3 y4 y5 y6 y7 y8 y9 yA yB yC yD yE yF yG yH yI yJ yK yL yM yN yO yP yQ yR yS yT yU yV yW yX yY yZ zW zX zY zZ za zb zc zd ze zf zg zh zi zj zk zl zm zn zo zp zq zr zt zu ya yb yc yd ye yf yg yh yi yj yk yl ym yn yo yp yq yr yt x0 x1 x2 x3 x4 x5 x6 x7 x8 x9 xA xB xC xD xE xF xG xH xI xJ xK xL xM xN xO xP xQ xR xS w0 L B n0 d sz fv a' w'' ∧ WmuX4 4 a' w'' < 4 - ck.toNat) Q0) ⟨#[.int .i64 sz, c1, c2, c3, .slice A m cap, c5, c6, .int .u32 fv, c8, c9, .int .u32 ck, xT, xU, xV, xW, xX, xY, xZ, xa, xb, xc, xd, xe, xf, xg, xh, xi, xj, xk, xl, xm, xn, xo, xp, xq, xr, xt, xu, xv, xw, y0, y1, y2, y3, y4, y5, y6, y7, y8, y9, yA, yB, yC, yD, yE, yF, yG, yH, yI, yJ, yK, yL, yM, yN, yO, yP, yQ, yR, yS, yT, yU, yV, yW, yX, yY, yZ, zW, zX, zY, zZ, za, zb, zc, zd, ze, zf, zg, zh, zi, zj, zk, zl, zm, zn, zo, zp, zq, zr, zt, zu, ya, yb, yc, yd, ye, yf, yg, yh, yi, yj, yk, yl, ym, yn, yo, yp, yq, yr, yt, x0, x1, x2, x3, x4, x5, x6, x7, x8, x9, xA, xB, xC, qH, qI, qJ, qK, qL, qM, qN, qO, qP, qQ, qR, qS, qT, qU, qV, qW, qX, qY, qZ, qa, qb, qc, qd, qe, qf, qg, qh, qi, qj, qk, ql, qm, qn, qo, xD, xE, xF, xG, xH, xI, xJ, xK, xL, xM, xN, xO, xP, xQ, xR, xS], []⟩ wr := by
  conv => arg 2; whnf
  have HJ := hide hJ
  clear hJ
  obtain ⟨i1, hi1, hz0, hz1, hz2⟩ := info_parts info49
  obtain ⟨R0, hR0⟩ : ∃ R, ((flD d) k).take 1 = R := ⟨_, rfl⟩
  have HR0 := hide hR0
  clear hR0
  obtain ⟨R1, hR1⟩ : ∃ R, ((flD d) k).drop 1 = R := ⟨_, rfl⟩
  have HR1 := hide hR1
  clear hR1
  have HRR := hide (show (flD d) k = R0 ++ R1 by rw [← unhide HR0, ← unhide HR1, List.take_append_drop])
  have hc : (k = 0 ∧ ck = 0) ∨ (k = 1 ∧ ck = 1) ∨ (k = 2 ∧ ck = 2) ∨ (k = 3 ∧ ck = 3) := by omega
  clear hlt hck
  rcases hs with ⟨rfl, rfl, rfl⟩ | ⟨rfl, rfl, rfl⟩ <;> rcases hc with ⟨hkv, rfl⟩ | ⟨hkv, rfl⟩ | ⟨hkv, rfl⟩ | ⟨hkv, rfl⟩
  all_goals
    have HKV := hide hkv
    go_wp2_with (at_builtin; refine wpList_append_sl (n := m) (m := 1) rfl _ _ 46 rfl 49 i1 _ 7 48 Try.underlying46 hi1 hz0 hz1 hz2 rfl rfl rfl ((unhide HJ).alloc _).slw (sl_blk (n := 1) (sz := 7) (xs := rowsC R0) (by rw [← unhide HR0, unhide HKV]; exact heap_new' wr _) (by rw [← unhide HR0, unhide HKV]; rfl)) (rowsC_cells _) (by omega) (by omega) ?_; intro v' w7 hsl hgr hblk hsp; obtain ⟨A', cap', rfl, _⟩ := hsl.parts; have hA := hide (((unhide HJ).alloc _).appendw hsl hgr hblk); clear hsl hgr hblk hsp; refine unhide ?_)
    refine hide ?_
    go_wp2_with (at_builtin; refine wpList_append_sl (n := m + 1) (m := 1) rfl _ _ 46 rfl 49 i1 _ 7 48 Try.underlying46 hi1 hz0 hz1 hz2 rfl rfl rfl ((unhide hA).alloc _).slw (sl_blk (n := 1) (sz := 7) (xs := rowsC R1) (by rw [← unhide HR1, unhide HKV]; exact heap_new' w7 _) (by rw [← unhide HR1, unhide HKV]; rfl)) (rowsC_cells _) (by omega) (by omega) ?_; intro v' w8 hsl hgr hblk hsp; obtain ⟨A', cap', rfl, _⟩ := hsl.parts; have hA := hide (((unhide hA).alloc _).appendw hsl hgr hblk); clear hsl hgr hblk hsp; refine unhide ?_)
    refine hide ?_
    go_wp2
    refine ⟨⟨k + 1, ((k + 1 : Nat) : Int), A', m + 2, cap', ⟨rfl, by have := unhide HKV; omega, by omega, by rw [uptoL_succ, ← List.append_assoc, rowsC_app, unhide HRR, rowsC_app R0, ← List.append_assoc]; exact unhide hA⟩, ?_⟩, by simp [WmuX4, intOf]⟩
    unfold FRX4
    obtain rfl := unhide HKV
    refine ⟨_, _, _, _, _, _, _, _, _, _, _, _, _, _, _, _, _, _, _, _, _, _, _, _, _, _, _, _, _, _, _, _, _, _, rfl⟩
set_option maxRecDepth 1000000 in
set_option maxHeartbeats 8000000 in
theorem roundX4 (hn : n0 ≤ 200) (hs : (d = 0 ∧ sz = 4 ∧ fv = 83) ∨ (d = 1 ∧ sz = 8 ∧ fv = 33554515)) (Q0 : Exit → Act → World → Prop) (c1 c2 c3 c5 c6 c8 c9 xT xU xV xW xX xY xZ xa xb xc xd xe xf xg xh xi xj xk xl xm xn xo xp xq xr xt xu xv xw y0 y1 y2 y3 y4 y5 y6 y7 y8 y9 yA yB yC yD yE yF yG yH yI yJ yK yL yM yN yO yP yQ yR yS yT yU yV yW yX yY yZ zW zX zY zZ za zb zc zd ze zf zg zh zi zj zk zl zm zn zo zp zq zr zt zu ya yb yc yd ye yf yg yh yi yj yk yl ym yn yo yp yq yr yt x0 x1 x2 x3 x4 x5 x6 x7 x8 x9 xA xB xC xD xE xF xG xH xI xJ xK xL xM xN xO xP xQ xR xS : Value) (hexit : ∀ a' w'', WXX4 c1 c2 c3 c5 c6 c8 c9 xT xU xV xW xX xY xZ xa xb xc xd xe xf xg xh xi xj xk xl xm xn xo xp xq xr xt xu xv xw y0 y1 y2 y3 y4 y5 y6 y7 y8 y9 yA yB yC yD yE yF yG yH yI yJ yK yL yM yN yO yP yQ yR yS yT yU yV yW yX yY yZ zW zX zY zZ za zb zc zd ze zf zg zh zi zj zk zl zm zn zo zp zq zr zt zu ya yb yc yd ye yf yg yh yi yj yk yl ym yn yo yp yq yr yt x0 x1 x2 x3 x4 x5 x6 x7 x8 x9 xA xB xC xD xE xF xG xH xI xJ xK xL xM xN xO xP xQ xR xS w0 L B n0 d sz fv a' w'' → Q0 (.exit 6) a' w'') {a : Act} {wr : World} (hI : WIX4 c1 c2 c3 c5 c6 c8 c9 xT xU xV xW xX xY xZ xa xb xc xd xe xf xg xh xi xj xk xl xm xn xo xp xq xr xt xu xv xw y0 y1 y2 y3 y4 y5 y6 y7 y8 y9 yA yB yC yD yE yF yG yH yI yJ yK yL yM yN yO yP yQ yR yS yT yU yV yW yX yY yZ zW zX zY zZ za zb zc zd ze zf zg zh zi zj zk zl zm zn zo zp zq zr zt zu ya yb yc yd ye yf yg yh yi yj yk yl ym yn yo yp yq yr yt x0 x1 x2 x3 x4 x5 x6 x7 x8 x9 xA xB xC xD xE xF xG xH xI xJ xK xL xM xN xO xP xQ xR xS w0 L B n0 d sz fv a wr) :
    Code.wp Try.prog bodyX4 (Exit.then (fun a' w'' => WIX4 c1 c2 c3 c5 c6 c8 c9 xT xU xV xW xX xY xZ xa xb xc xd xe xf xg xh xi xj xk xl xm xn xo xp xq xr xt xu xv xw y0 y1 y2 y3 y4 y5 y6 y7 y8 y9 yA yB yC yD yE yF yG yH yI yJ yK yL yM yN yO yP yQ yR yS yT yU yV yW yX yY yZ zW zX zY zZ za zb zc zd ze zf zg zh zi zj zk zl zm zn zo zp zq zr zt zu ya yb yc yd ye yf yg yh yi yj yk yl ym yn yo yp yq yr yt x0 x1 x2 x3 x4 x5 x6 x7 x8 x9 xA xB xC xD xE xF xG xH xI xJ xK xL xM xN xO xP xQ xR xS w0 L B n0 d sz fv a' w'' ∧ WmuX4 4 a' w'' < WmuX4 4 a wr) Q0) a wr := by
  obtain ⟨k, ck, A, m, cap, ⟨hck, hk, hm, hJ⟩, hF⟩ := hI
  unfold FRX4 at hF
  obtain ⟨qH, hF⟩ := hF
  obtain ⟨qI, hF⟩ := hF
  obtain ⟨qJ, hF⟩ := hF
  obtain ⟨qK, hF⟩ := hF
  obtain ⟨qL, hF⟩ := hF
  obtain ⟨qM, hF⟩ := hF
  obtain ⟨qN, hF⟩ := hF
  obtain ⟨qO, hF⟩ := hF
  obtain ⟨qP, hF⟩ := hF
  obtain ⟨qQ, hF⟩ := hF
  obtain ⟨qR, hF⟩ := hF
  obtain ⟨qS, hF⟩ := hF
  obtain ⟨qT, hF⟩ := hF
  obtain ⟨qU, hF⟩ := hF
  obtain ⟨qV, hF⟩ := hF
  obtain ⟨qW, hF⟩ := hF
  obtain ⟨qX, hF⟩ := hF
  obtain ⟨qY, hF⟩ := hF
  obtain ⟨qZ, hF⟩ := hF
  obtain ⟨qa, hF⟩ := hF
  obtain ⟨qb, hF⟩ := hF
  obtain ⟨qc, hF⟩ := hF
  obtain ⟨qd, hF⟩ := hF
  obtain ⟨qe, hF⟩ := hF
  obtain ⟨qf, hF⟩ := hF
  obtain ⟨qg, hF⟩ := hF
  obtain ⟨qh, hF⟩ := hF
  obtain ⟨qi, hF⟩ := hF
  obtain ⟨qj, hF⟩ := hF
  obtain ⟨qk, hF⟩ := hF
  obtain ⟨ql, hF⟩ := hF
  obtain ⟨qm, hF⟩ := hF
  obtain ⟨qn, hF⟩ := hF
  obtain ⟨qo, hF⟩ := hF
  subst hF
  by_cases hlt : k < 4
  · exact oneX4 hn hs hck hm hJ hlt Q0 _ _ _ _ _ _ _ _ _ _ _ _ _ _ _ _ _ _ _ _ _ _ _ _ _ _ _ _ _ _ _ _ _ _ _ _ _ _ _ _ _ _ _ _ _ _ _ _ _ _ _ _ _ _ _ _ _ _ _ _ _ _ _ _ _ _ _ _ _ _ _ _ _ _ _ _ _ _ _ _ _ _ _ _ _ _ _ _ _ _ _ _ _ _ _ _ _ _ _ _ _ _ _ _ _ _ _ _ _ _ _ _ _ _ _ _ _ _ _ _ _ _ _ _ _ _ _ _ _ _ _ _ _ _ _ _ _ _ _ _ _ _ _ _ _ _ _ _ _ _ _ _ _ _ _ _ _ _ _ _ _ _ _ _ _ _ _ _ _ _ _ _ _ _ _ _ _ _
  · obtain rfl : k = 4 := by omega
    obtain rfl : ck = 4 := by omega
    have HJ := hide hJ
    clear hJ hck
    conv => arg 2; whnf
    go_wp2
    refine ⟨A, m, cap, ⟨by omega, unhide HJ⟩, ?_⟩
    unfold FRX4
    refine ⟨_, _, _, _, _, _, _, _, _, _, _, _, _, _, _, _, _, _, _, _, _, _, _, _, _, _, _, _, _, _, _, _, _, _, rfl⟩
set_option maxRecDepth 1000000 in
theorem loopX4 (hn : n0 ≤ 200) (hs : (d = 0 ∧ sz = 4 ∧ fv = 83) ∨ (d = 1 ∧ sz = 8 ∧ fv = 33554515)) (Q0 : Exit → Act → World → Prop) (c1 c2 c3 c5 c6 c8 c9 xT xU xV xW xX xY xZ xa xb xc xd xe xf xg xh xi xj xk xl xm xn xo xp xq xr xt xu xv xw y0 y1 y2 y3 y4 y5 y6 y7 y8 y9 yA yB yC yD yE yF yG yH yI yJ yK yL yM yN yO yP yQ yR yS yT yU yV yW yX yY yZ zW zX zY zZ za zb zc zd ze zf zg zh zi zj zk zl zm zn zo zp zq zr zt zu ya yb yc yd ye yf yg yh yi yj yk yl ym yn yo yp yq yr yt x0 x1 x2 x3 x4 x5 x6 x7 x8 x9 xA xB xC xD xE xF xG xH xI xJ xK xL xM xN xO xP xQ xR xS : Value) {A : Option Addr} {m cap : Nat} {wr : World} (hm : m ≤ n0) (hJ : Heap w0 wr (HP.slw (.slice A m cap) 7 m (rowsC B) :: L)) (qH qI qJ qK qL qM qN qO qP qQ qR qS qT qU qV qW qX qY qZ qa qb qc qd qe qf qg qh qi qj qk ql qm qn qo : Value) (hexit : ∀ a' w'', WXX4 c1 c2 c3 c5 c6 c8 c9 xT xU xV xW xX xY xZ xa xb xc xd xe xf xg xh xi xj xk xl xm xn xo xp xq xr xt xu xv xw y0 y1 y2 y3 y4 y5 y6 y7 y8 y9 yA yB yC yD yE yF yG yH yI yJ yK yL yM yN yO yP yQ yR yS yT yU yV yW yX yY yZ zW zX zY zZ za zb zc zd ze zf zg zh zi zj zk zl zm zn zo zp zq zr zt zu ya yb yc yd ye yf yg yh yi yj yk yl ym yn yo yp yq yr yt x0 x1 x2 x3 x4 x5 x6 x7 x8 x9 xA xB xC xD xE xF xG xH xI xJ xK xL xM xN xO xP xQ xR xS w0 L B n0 d sz fv a' w'' → Q0 (.exit 6) a' w'') :
    Code.wp Try.prog (Code.loop bodyX4) Q0 ⟨#[.int .i64 sz, c1, c2, c3, .slice A m cap, c5, c6, .int .u32 fv, c8, c9, .int .u32 0, xT, xU, xV, xW, xX, xY, xZ, xa, xb, xc, xd, xe, xf, xg, xh, xi, xj, xk, xl, xm, xn, xo, xp, xq, xr, xt, xu, xv, xw, y0, y1, y2, y3, y4, y5, y6, y7, y8, y9, yA, yB, yC, yD, yE, yF, yG, yH, yI, yJ, yK, yL, yM, yN, yO, yP, yQ, yR, yS, yT, yU, yV, yW, yX, yY, yZ, zW, zX, zY, zZ, za, zb, zc, zd, ze, zf, zg, zh, zi, zj, zk, zl, zm, zn, zo, zp, zq, zr, zt, zu, ya, yb, yc, yd, ye, yf, yg, yh, yi, yj, yk, yl, ym, yn, yo, yp, yq, yr, yt, x0, x1, x2, x3, x4, x5, x6, x7, x8, x9, xA, xB, xC, qH, qI, qJ, qK, qL, qM, qN, qO, qP, qQ, qR, qS, qT, qU, qV, qW, qX, qY, qZ, qa, qb, qc, qd, qe, qf, qg, qh, qi, qj, qk, ql, qm, qn, qo, xD, xE, xF, xG, xH, xI, xJ, xK, xL, xM, xN, xO, xP, xQ, xR, xS], []⟩ wr := by
  refine wp_loop (WIX4 c1 c2 c3 c5 c6 c8 c9 xT xU xV xW xX xY xZ xa xb xc xd xe xf xg xh xi xj xk xl xm xn xo xp xq xr xt xu xv xw y0 y1 y2 y3 y4 y5 y6 y7 y8 y9 yA yB yC yD yE yF yG yH yI yJ yK yL yM yN yO yP yQ yR yS yT yU yV yW yX yY yZ zW zX zY zZ za zb zc zd ze zf zg zh zi zj zk zl zm zn zo zp zq zr zt zu ya yb yc yd ye yf yg yh yi yj yk yl ym yn yo yp yq yr yt x0 x1 x2 x3 x4 x5 x6 x7 x8 x9 xA xB xC xD xE xF xG xH xI xJ xK xL xM xN xO xP xQ xR xS w0 L B n0 d sz fv) (WmuX4 4) ⟨0, 0, A, m, cap, ⟨by omega, by omega, by omega, by rw [show uptoL (flD d) 0 = [] from rfl, List.append_nil]; exact hJ⟩, ?_⟩ (fun a w'' hI => roundX4 hn hs Q0 c1 c2 c3 c5 c6 c8 c9 xT xU xV xW xX xY xZ xa xb xc xd xe xf xg xh xi xj xk xl xm xn xo xp xq xr xt xu xv xw y0 y1 y2 y3 y4 y5 y6 y7 y8 y9 yA yB yC yD yE yF yG yH yI yJ yK yL yM yN yO yP yQ yR yS yT yU yV yW yX yY yZ zW zX zY zZ za zb zc zd ze zf zg zh zi zj zk zl zm zn zo zp zq zr zt zu ya yb yc yd ye yf yg yh yi yj yk yl ym yn yo yp yq yr yt x0 x1 x2 x3 x4 x5 x6 x7 x8 x9 xA xB xC xD xE xF xG xH xI xJ xK xL xM xN xO xP xQ xR xS hexit hI)
  unfold FRX4
  exact ⟨qH, qI, qJ, qK, qL, qM, qN, qO, qP, qQ, qR, qS, qT, qU, qV, qW, qX, qY, qZ, qa, qb, qc, qd, qe, qf, qg, qh, qi, qj, qk, ql, qm, qn, qo, rfl⟩
end Go.Proofs.Ytopbdiekfhikmaa
