/- Layer 3, the document's side: immediates: the pieces, plain. / Layer 3, the document's side: immediates: the loop over the pieces. -/
import Derived.Test.YtopbdiekfhikmaaV1
import Derived.Deep.CutRange
namespace Go.Proofs.Ytopbdiekfhikmaa
open Go.RowKit
section
variable {w0 w : World} {L : List HP}
set_option maxRecDepth 100000 in
theorem pieces_w (h : Heap w0 w L) (c : Int) : Calls Try.prog 55 #[.int .u8 c] w fun r w' => ∃ A, r = .returned (.slice A (pcs c).length (pcs c).length) ∧ (0 < (pcs c).length → ∃ g, A = some ⟨g, 0, none⟩) ∧ Heap w0 w' (HP.slw (.slice A (pcs c).length (pcs c).length) 3 (pcs c).length (pcsC (pcs c)) :: L) := by
  have H := hide h
  clear h
  by_cases h1 : c = 73
  · subst h1
    have K := hide ((unhide H).newS [.int .i64 20, .int .i64 12, .int .i64 0] 67 1 3 rfl)
    go_enter Try.func55, Try.ntmps55
    go_wp2
    go_ret
    exact ⟨_, rfl, fun _ => ⟨_, rfl⟩, unhide K⟩
  by_cases h2 : c = 83
  · subst h2
    have K := hide ((unhide H).newS [.int .i64 7, .int .i64 5, .int .i64 0, .int .i64 25, .int .i64 7, .int .i64 5] 67 2 3 rfl)
    clear h1
    go_enter Try.func55, Try.ntmps55
    go_wp2
    go_ret
    exact ⟨_, rfl, fun _ => ⟨_, rfl⟩, unhide K⟩
  by_cases h3 : c = 66
  · subst h3
    have K := hide ((unhide H).newS [.int .i64 8, .int .i64 4, .int .i64 1, .int .i64 25, .int .i64 6, .int .i64 5, .int .i64 7, .int .i64 1, .int .i64 11, .int .i64 31, .int .i64 1, .int .i64 12] 67 4 3 rfl)
    clear h1 h2
    go_enter Try.func55, Try.ntmps55
    go_wp2
    go_ret
    exact ⟨_, rfl, fun _ => ⟨_, rfl⟩, unhide K⟩
  by_cases h4 : c = 85
  · subst h4
    have K := hide ((unhide H).newS [.int .i64 12, .int .i64 20, .int .i64 12] 67 1 3 rfl)
    clear h1 h2 h3
    go_enter Try.func55, Try.ntmps55
    go_wp2
    go_ret
    exact ⟨_, rfl, fun _ => ⟨_, rfl⟩, unhide K⟩
  by_cases h5 : c = 74
  · subst h5
    have K := hide ((unhide H).newS [.int .i64 21, .int .i64 10, .int .i64 1, .int .i64 20, .int .i64 1, .int .i64 11, .int .i64 12, .int .i64 8, .int .i64 12, .int .i64 31, .int .i64 1, .int .i64 20] 67 4 3 rfl)
    clear h1 h2 h3 h4
    go_enter Try.func55, Try.ntmps55
    go_wp2
    go_ret
    exact ⟨_, rfl, fun _ => ⟨_, rfl⟩, unhide K⟩
  have hp : pcs c = [] := by unfold pcs; rw [if_neg h1, if_neg h2, if_neg h3, if_neg h4, if_neg h5]
  rw [hp]
  have z1 : (c == 73) = false := beq_eq_false_iff_ne.2 h1
  have z2 : (c == 83) = false := beq_eq_false_iff_ne.2 h2
  have z3 : (c == 66) = false := beq_eq_false_iff_ne.2 h3
  have z4 : (c == 85) = false := beq_eq_false_iff_ne.2 h4
  have z5 : (c == 74) = false := beq_eq_false_iff_ne.2 h5
  clear hp h1 h2 h3 h4 h5
  go_enter Try.func55, Try.ntmps55
  go_wp2
  go_ret
  exact ⟨none, rfl, fun h => absurd h (by decide), (unhide H).noneS⟩
end
def pcN (c : Int) : List (Nat × Nat × Nat) :=
  if c = 73 then [(20, 12, 0)] else if c = 83 then [(7, 5, 0), (25, 7, 5)] else if c = 66 then [(8, 4, 1), (25, 6, 5), (7, 1, 11), (31, 1, 12)] else if c = 85 then [(12, 20, 12)] else if c = 74 then [(21, 10, 1), (20, 1, 11), (12, 8, 12), (31, 1, 20)] else []
theorem pcs_eq (c : Int) : pcs c = (pcN c).map fun p => ((p.1 : Int), (p.2.1 : Int), (p.2.2 : Int)) := by
  unfold pcs pcN
  split; · rfl
  split; · rfl
  split; · rfl
  split; · rfl
  split; · rfl
  rfl
theorem pcs_len (c : Int) : (pcs c).length = (pcN c).length := by rw [pcs_eq, List.length_map]
theorem pcN_le (c : Int) : (pcN c).length ≤ 4 := by
  unfold pcN
  split; · decide
  split; · decide
  split; · decide
  split; · decide
  split; · decide
  decide
theorem pcsC_at : ∀ (l : List (Int × Int × Int)) (k : Nat) (p : Int × Int × Int), l[k]? = some p → (pcsC l)[k * 3]? = some (.int .i64 p.1) ∧ (pcsC l)[k * 3 + 1]? = some (.int .i64 p.2.1) ∧ (pcsC l)[k * 3 + 2]? = some (.int .i64 p.2.2) := by
  intro l
  induction l with
  | nil => intro k p h; cases h
  | cons a l ih =>
    intro k p h
    cases k with
    | zero =>
      obtain rfl : a = p := by simpa using h
      exact ⟨rfl, rfl, rfl⟩
    | succ k =>
      have := ih k p (by simpa using h)
      rw [show (k + 1) * 3 = k * 3 + 3 by omega]
      simpa [pcsC] using this
theorem pc_at {w0 w : World} {L : List HP} {g n k lo ln pl : Nat} {c : Int} (h : Heap w0 w (HP.slw (.slice (some ⟨g, 0, none⟩) n n) 3 n (pcsC (pcs c)) :: L)) (hk : (pcN c)[k]? = some (lo, ln, pl)) :
    w.cell? ⟨g, k * 3 + 0, none⟩ = some (.int .i64 (lo : Int)) ∧ w.cell? ⟨g, k * 3 + 1, none⟩ = some (.int .i64 (ln : Int)) ∧ w.cell? ⟨g, k * 3 + 2, none⟩ = some (.int .i64 (pl : Int)) := by
  have h1 := pcsC_at (pcs c) k ((lo : Int), (ln : Int), (pl : Int)) (by rw [pcs_eq, List.getElem?_map, hk]; rfl)
  have key : ∀ j u, (pcsC (pcs c))[j]? = some u → w.cell? ⟨g, j, none⟩ = some u := fun j u hu => by
    have h2 := h.slw.cells_at rfl j u hu
    have e : (⟨g, 0, none⟩ : Addr).add j = ⟨g, j, none⟩ := by simp [Addr.add]; omega
    rwa [e] at h2
  exact ⟨key _ _ h1.1, key _ _ h1.2.1, key _ _ h1.2.2⟩
def nP (b : Nat) (l : List (Nat × Nat × Nat)) (k : Nat) : Nat := ((l.take k).map fun p => fd b p.1 p.2.1 * 2 ^ p.2.2).sum
def tP (l : List (Nat × Nat × Nat)) (k : Nat) : Nat := ((l.take k).map fun p => p.2.1 + p.2.2).foldl max 0
theorem nP_succ {b : Nat} {l : List (Nat × Nat × Nat)} {k lo ln pl : Nat} (h : l[k]? = some (lo, ln, pl)) : nP b l (k + 1) = nP b l k + fd b lo ln * 2 ^ pl := by
  unfold nP
  rw [List.take_add_one, h]
  simp
theorem tP_succ {l : List (Nat × Nat × Nat)} {k lo ln pl : Nat} (h : l[k]? = some (lo, ln, pl)) (ht : tP l k ≤ pl) : tP l (k + 1) = ln + pl := by
  unfold tP at *
  rw [List.take_add_one, h]
  simp only [Option.toList_some, List.map_append, List.map_cons, List.map_nil, List.foldl_append, List.foldl_cons, List.foldl_nil]
  omega
theorem pc_ok {c : Int} {k lo ln pl : Nat} (h : (pcN c)[k]? = some (lo, ln, pl)) : lo < 32 ∧ ln ≤ 20 ∧ ln + pl ≤ 32 ∧ tP (pcN c) k ≤ pl := by
  have key : ∀ l ∈ ([[(20, 12, 0)], [(7, 5, 0), (25, 7, 5)], [(8, 4, 1), (25, 6, 5), (7, 1, 11), (31, 1, 12)], [(12, 20, 12)], [(21, 10, 1), (20, 1, 11), (12, 8, 12), (31, 1, 20)], []] : List (List (Nat × Nat × Nat))), ∀ k, k < l.length → ((l[k]?).getD (0, 0, 0)).1 < 32 ∧ ((l[k]?).getD (0, 0, 0)).2.1 ≤ 20 ∧ ((l[k]?).getD (0, 0, 0)).2.1 + ((l[k]?).getD (0, 0, 0)).2.2 ≤ 32 ∧ tP l k ≤ ((l[k]?).getD (0, 0, 0)).2.2 := by decide
  have hm : pcN c ∈ ([[(20, 12, 0)], [(7, 5, 0), (25, 7, 5)], [(8, 4, 1), (25, 6, 5), (7, 1, 11), (31, 1, 12)], [(12, 20, 12)], [(21, 10, 1), (20, 1, 11), (12, 8, 12), (31, 1, 20)], []] : List (List (Nat × Nat × Nat))) := by
    unfold pcN
    repeat' split
    all_goals simp
  have := key _ hm k (List.getElem?_eq_some_iff.1 h).1
  rw [h] at this
  exact this
theorem nP_next {n f pl ln : Nat} (hn : n < 2 ^ pl) (hf : f < 2 ^ ln) : n + f * 2 ^ pl < 2 ^ (ln + pl) := by
  have h1 : (f + 1) * 2 ^ pl ≤ 2 ^ ln * 2 ^ pl := Nat.mul_le_mul_right _ hf
  rw [Nat.pow_add]
  have h2 : (f + 1) * 2 ^ pl = f * 2 ^ pl + 2 ^ pl := by rw [Nat.add_mul, Nat.one_mul]
  omega
theorem pow_le {a b : Nat} (h : a ≤ b) : 2 ^ a ≤ 2 ^ b := Nat.pow_le_pow_right (by decide) h
theorem wn32 (x : Nat) (h : x < 4294967296) : IntKind.u32.wrap (x : Int) = x := by rw [IntKind.wrap_u32]; omega
theorem wn64 (x : Nat) (h : x < 9223372036854775808) : IntKind.i64.wrap (x : Int) = x := by rw [wrap_i64, if_neg (by omega)]; omega
/-- What the operations of a round give. -/
theorem i_shr (b lo : Nat) (hl : lo < 32) (w : World) : (binOp .shr 22 (.int .u32 (b : Int)) (.int .i64 (lo : Int))).run Try.prog w = .ok (.int .u32 ((b / 2 ^ lo : Nat) : Int)) w := by
  rw [binOp_shr, shift_shr .u32 .i64 b lo (by omega) (by simp [IntKind.bits]; omega), Int.toNat_natCast, Int.natCast_ediv, Int.natCast_pow]
  rfl
theorem i_one (ln : Nat) (hl : ln < 32) (w : World) : (binOp .shl 22 (.int .u32 1) (.int .i64 (ln : Int))).run Try.prog w = .ok (.int .u32 ((2 ^ ln : Nat) : Int)) w := by
  have h := pow_le (show ln ≤ 31 by omega)
  rw [binOp_shl, shift_shl .u32 .i64 1 ln (by omega) (by simp [IntKind.bits]; omega), Int.toNat_natCast, show (1 : Int) * 2 ^ ln = ((2 ^ ln : Nat) : Int) by rw [Int.one_mul, Int.natCast_pow]; rfl, wn32 (2 ^ ln) (by omega)]
  rfl
theorem i_sub (ln : Nat) (hl : ln < 32) (w : World) : (binOp .sub 22 (.int .u32 ((2 ^ ln : Nat) : Int)) (.int .u32 1)).run Try.prog w = .ok (.int .u32 ((2 ^ ln - 1 : Nat) : Int)) w := by
  have h := pow_le (show ln ≤ 31 by omega)
  have h1 : 1 ≤ 2 ^ ln := Nat.one_le_two_pow
  have e : (binOp .sub 22 (.int .u32 ((2 ^ ln : Nat) : Int)) (.int .u32 1)).run Try.prog w = .ok (.int .u32 (IntKind.u32.wrap (((2 ^ ln : Nat) : Int) - 1))) w := rfl
  rw [e, show (((2 ^ ln : Nat) : Int) - 1) = ((2 ^ ln - 1 : Nat) : Int) by rw [Int.natCast_sub h1]; rfl, wn32 (2 ^ ln - 1) (by omega)]
theorem i_and (b lo ln : Nat) (hl : ln < 32) (w : World) : (binOp .and 22 (.int .u32 ((b / 2 ^ lo : Nat) : Int)) (.int .u32 ((2 ^ ln - 1 : Nat) : Int))).run Try.prog w = .ok (.int .u32 ((fd b lo ln : Nat) : Int)) w := by
  have h := pow_le (show ln ≤ 31 by omega)
  have e : (binOp .and 22 (.int .u32 ((b / 2 ^ lo : Nat) : Int)) (.int .u32 ((2 ^ ln - 1 : Nat) : Int))).run Try.prog w = .ok (.int .u32 (bits .and .u32 ((b / 2 ^ lo : Nat) : Int) ((2 ^ ln - 1 : Nat) : Int))) w := rfl
  rw [e, ← and32_cast]
  unfold fd
  rw [← and_mask32 _ _ hl, Nat.mod_eq_of_lt (a := 2 ^ ln - 1) (by omega)]
theorem i_conv (f : Nat) (hf : f < 4294967296) (w : World) : (convert 22 2 (.int .u32 (f : Int))).run Try.prog w = .ok (.int .i64 (f : Int)) w := by
  have e : (convert 22 2 (.int .u32 (f : Int))).run Try.prog w = .ok (.int .i64 (IntKind.i64.wrap (f : Int))) w := rfl
  rw [e, wrap_i64, if_neg (by omega)]
  congr 2
  omega
theorem i_shl (f pl : Nat) (hp : pl ≤ 32) (hf : f * 2 ^ pl < 9223372036854775808) (w : World) : (binOp .shl 2 (.int .i64 (f : Int)) (.int .i64 (pl : Int))).run Try.prog w = .ok (.int .i64 ((f * 2 ^ pl : Nat) : Int)) w := by
  rw [binOp_shl, shift_shl .i64 .i64 f pl (by omega) (by simp [IntKind.bits]; omega), Int.toNat_natCast, show (f : Int) * 2 ^ pl = ((f * 2 ^ pl : Nat) : Int) by rw [Int.natCast_mul, Int.natCast_pow]; rfl, wn64 (f * 2 ^ pl) hf]
  rfl
theorem i_or (n f pl : Nat) (hn : n < 2 ^ pl) (hf : n + f * 2 ^ pl < 9223372036854775808) (w : World) : (binOp .or 2 (.int .i64 (n : Int)) (.int .i64 ((f * 2 ^ pl : Nat) : Int))).run Try.prog w = .ok (.int .i64 ((n + f * 2 ^ pl : Nat) : Int)) w := by
  have e : (binOp .or 2 (.int .i64 (n : Int)) (.int .i64 ((f * 2 ^ pl : Nat) : Int))).run Try.prog w = .ok (.int .i64 (bits .or .i64 (n : Int) ((f * 2 ^ pl : Nat) : Int))) w := rfl
  rw [e]
  have h : bits .or .i64 (n : Int) ((f * 2 ^ pl : Nat) : Int) = ((n + f * 2 ^ pl : Nat) : Int) := by
    show IntKind.i64.wrap ((BitVec.ofInt 64 (n : Int) ||| BitVec.ofInt 64 ((f * 2 ^ pl : Nat) : Int)).toNat : Int) = _
    rw [BitVec.toNat_or, bv_ofInt, bv_ofInt, Nat.mod_eq_of_lt (a := n) (by omega), Nat.mod_eq_of_lt (a := f * 2 ^ pl) (by omega), Nat.or_comm, nat_or_parts pl _ _ (Nat.mul_mod_left _ _) hn, Nat.add_comm, wn64 _ hf]
  rw [h]
theorem i_add (x y : Nat) (h : x + y < 1000) (w : World) : (binOp .add 3 (.int .i64 (x : Int)) (.int .i64 (y : Int))).run Try.prog w = .ok (.int .i64 ((x + y : Nat) : Int)) w := by
  have e : (binOp .add 3 (.int .i64 (x : Int)) (.int .i64 (y : Int))).run Try.prog w = .ok (.int .i64 (IntKind.i64.wrap ((x : Int) + y))) w := rfl
  rw [e, show IntKind.i64.wrap ((x : Int) + y) = ((x + y : Nat) : Int) by rw [wrap_i64, if_neg (by omega)]; omega]
theorem i_max (x y : Nat) (h : x ≤ y) (w : World) : (Builtin.max_ #[3, 3] 3 #[.int .i64 (x : Int), .int .i64 (y : Int)]).run Try.prog w = .ok (.int .i64 (y : Int)) w := by
  rw [run_max_int2]
  split
  · rfl
  · rw [show (x : Int) = y by omega]
theorem ix3_at {P : Program} (t e : TypeId) (ht : P.underlying t = some (.slice e)) (hs : (P.info? e).map (·.size) = some 3) (g n c k : Nat) (h : k < n) (w : World) :
    (Instr.indexAt t (.slice (some ⟨g, 0, none⟩) n c) (.int .i64 (k : Int))).run P w = .ok (.pointer (some ⟨g, k * 3, none⟩)) w := by
  have he : P.elem t = e := by simp [Program.elem, ht]
  rw [run_indexAt_slice w t ⟨g, 0, none⟩ n c .i64 k (by rw [ht, he])]
  cases hi : P.info? e with
  | none => rw [hi] at hs; cases hs
  | some i =>
    rw [hi] at hs
    have hs : i.size = 3 := by simpa using hs
    simp [he, sizeOf, typeInfo, hi, hs, h, Addr.add]
    omega
end Go.Proofs.Ytopbdiekfhikmaa
namespace Go.Proofs.Ytopbdiekfhikmaa
open Go.RowKit
def loopsOfI2 : Code → List Code
  | .loop c => [c]
  | .seq a b => loopsOfI2 a ++ loopsOfI2 b
  | .block _ c => loopsOfI2 c
  | .scope c => loopsOfI2 c
  | .cond _ a b => loopsOfI2 a ++ loopsOfI2 b
  | _ => []
noncomputable def bodyI2 : Code := ((Try.f45.body.map loopsOfI2).getD []).getD 0 .skip
set_option maxRecDepth 1000000 in
def FRI2 (c0 c1 c3 c4 c5 c6 x1 x2 x3 x4 x5 x6 x7 x8 x9 xA xB xC xD xE xF xG xH xI xJ xK xL xM xN xO xP xQ xR xS xT xU xV : Value) (b : Nat) (A : Option Addr) (nn n tp k : Nat) (a : Act) : Prop := ∃ xW : Value, ∃ xX : Value, ∃ xY : Value, ∃ xZ : Value, ∃ xa : Value, ∃ xb : Value, ∃ xc : Value, ∃ xd : Value, ∃ xe : Value, ∃ xf : Value, ∃ xg : Value, ∃ xh : Value, ∃ xi : Value, ∃ xj : Value, ∃ xk : Value, ∃ xl : Value, ∃ xm : Value, ∃ xn : Value, ∃ x0 : Value, ∃ xo : Value, ∃ xp : Value, ∃ xq : Value, ∃ xr : Value, ∃ xt : Value, ∃ xu : Value, ∃ xv : Value, ∃ xw : Value, ∃ y0 : Value, ∃ y1 : Value, ∃ y2 : Value, ∃ y3 : Value, ∃ y4 : Value, ∃ y5 : Value, ∃ y6 : Value, ∃ y7 : Value, ∃ y8 : Value, ∃ y9 : Value, ∃ yA : Value, ∃ yB : Value, ∃ yC : Value, ∃ yD : Value, ∃ yE : Value, ∃ yF : Value, a = ⟨#[c0, c1, .int .u32 (b : Int), c3, c4, c5, c6, .slice A nn nn, .int .i64 (n : Int), .int .i64 (tp : Int), .int .i64 (k : Int), x1, x2, x3, xW, xX, xY, xZ, xa, xb, xc, xd, xe, xf, xg, xh, xi, xj, xk, xl, xm, xn, x0, xo, xp, xq, xr, xt, xu, xv, xw, y0, y1, y2, y3, y4, y5, y6, y7, y8, y9, yA, yB, yC, yD, yE, yF, x4, x5, x6, x7, x8, x9, xA, xB, xC, xD, xE, xF, xG, xH, xI, xJ, xK, xL, xM, xN, xO, xP, xQ, xR, xS, xT, xU, xV], []⟩
def WII2 (c0 c1 c3 c4 c5 c6 x1 x2 x3 x4 x5 x6 x7 x8 x9 xA xB xC xD xE xF xG xH xI xJ xK xL xM xN xO xP xQ xR xS xT xU xV : Value) (w0 : World) (L : List HP) (c : Int) (b : Nat) (A : Option Addr) (nn : Nat) (a : Act) (wr : World) : Prop := ∃ (k n tp : Nat), (k ≤ nn ∧ n = nP b (pcN c) k ∧ tp = tP (pcN c) k ∧ n < 2 ^ tp ∧ Heap w0 wr (HP.slw (.slice A nn nn) 3 nn (pcsC (pcs c)) :: L)) ∧ FRI2 c0 c1 c3 c4 c5 c6 x1 x2 x3 x4 x5 x6 x7 x8 x9 xA xB xC xD xE xF xG xH xI xJ xK xL xM xN xO xP xQ xR xS xT xU xV b A nn n tp k a
def WXI2 (c0 c1 c3 c4 c5 c6 x1 x2 x3 x4 x5 x6 x7 x8 x9 xA xB xC xD xE xF xG xH xI xJ xK xL xM xN xO xP xQ xR xS xT xU xV : Value) (w0 : World) (L : List HP) (c : Int) (b : Nat) (A : Option Addr) (nn : Nat) (a : Act) (wr : World) : Prop := ∃ (n tp : Nat), (n = nP b (pcN c) nn ∧ tp = tP (pcN c) nn ∧ n < 2 ^ tp ∧ Heap w0 wr (HP.slw (.slice A nn nn) 3 nn (pcsC (pcs c)) :: L)) ∧ FRI2 c0 c1 c3 c4 c5 c6 x1 x2 x3 x4 x5 x6 x7 x8 x9 xA xB xC xD xE xF xG xH xI xJ xK xL xM xN xO xP xQ xR xS xT xU xV b A nn n tp nn a
def WmuI2 (K : Nat) (a : Act) (_ : World) : Nat := K - (intOf (a.tmps.getD 10 undef)).toNat
variable {w0 : World} {L : List HP} {c : Int} {b : Nat} {A : Option Addr} {nn : Nat}
set_option maxRecDepth 1000000 in
set_option maxHeartbeats 8000000 in
theorem oneI2 (hA : 0 < nn → ∃ g, A = some ⟨g, 0, none⟩) (hnn : nn = (pcN c).length) {n tp k : Nat} {wr : World} (hn : n = nP b (pcN c) k) (ht : tp = tP (pcN c) k) (hlt9 : n < 2 ^ tp) (hJ : Heap w0 wr (HP.slw (.slice A nn nn) 3 nn (pcsC (pcs c)) :: L)) (hlt : k < nn) (Q0 : Exit → Act → World → Prop) (c0 c1 c3 c4 c5 c6 x1 x2 x3 x4 x5 x6 x7 x8 x9 xA xB xC xD xE xF xG xH xI xJ xK xL xM xN xO xP xQ xR xS xT xU xV xW xX xY xZ xa xb xc xd xe xf xg xh xi xj xk xl xm xn x0 xo xp xq xr xt xu xv xw y0 y1 y2 y3 y4 y5 y6 y7 y8 y9 yA yB yC yD yE yF : Value) :
    Code.wp Try.prog bodyI2 (Exit.then (fun a' w'' => WII2 c0 c1 c3 c4 c5 c6 x1 x2 x3 x4 x5 x6 x7 x8 x9 xA xB xC xD xE xF xG xH xI xJ xK xL xM xN xO xP xQ xR xS xT xU xV w0 L c b A nn a' w'' ∧ WmuI2 nn a' w'' < nn - k) Q0) ⟨#[c0, c1, .int .u32 (b : Int), c3, c4, c5, c6, .slice A nn nn, .int .i64 (n : Int), .int .i64 (tp : Int), .int .i64 (k : Int), x1, x2, x3, xW, xX, xY, xZ, xa, xb, xc, xd, xe, xf, xg, xh, xi, xj, xk, xl, xm, xn, x0, xo, xp, xq, xr, xt, xu, xv, xw, y0, y1, y2, y3, y4, y5, y6, y7, y8, y9, yA, yB, yC, yD, yE, yF, x4, x5, x6, x7, x8, x9, xA, xB, xC, xD, xE, xF, xG, xH, xI, xJ, xK, xL, xM, xN, xO, xP, xQ, xR, xS, xT, xU, xV], []⟩ wr := by
  obtain ⟨g, rfl⟩ := hA (by omega)
  clear hA
  conv => arg 2; whnf
  have HJ := hide hJ
  clear hJ
  obtain ⟨⟨lo, ln, pl⟩, hpc⟩ : ∃ p, (pcN c)[k]? = some p := ⟨_, List.getElem?_eq_getElem (by omega)⟩
  obtain ⟨q1, q2, q3, q4⟩ := pc_ok hpc
  have hf := fd_lt b lo ln
  have hfl := pow_le (show ln ≤ 20 by omega)
  have hnp : n < 2 ^ pl := Nat.lt_of_lt_of_le hlt9 (pow_le (by omega))
  have hnx := nP_next hnp hf
  have hnl := pow_le q3
  have hn4 : nn ≤ 4 := by rw [hnn]; exact pcN_le c
  have FA := hide (fun w => ix3_at (P := Try.prog) 64 67 Try.underlying64 (by kernel_rfl) g nn nn k hlt w)
  have F1 := hide (i_shr b lo q1)
  have F2 := hide (i_one ln (by omega))
  have F3 := hide (i_sub ln (by omega))
  have F4 := hide (i_and b lo ln (by omega))
  have F5 := hide (i_conv (fd b lo ln) (by omega))
  have F6 := hide (i_shl (fd b lo ln) pl (by omega) (by omega))
  have F7 := hide (i_or n (fd b lo ln) pl hnp (by omega))
  have F8 := hide (i_add ln pl (by omega))
  have F9 := hide (i_max tp (ln + pl) (by omega))
  have HPC := hide hpc
  have HN := hide (show nP b (pcN c) (k + 1) = n + fd b lo ln * 2 ^ pl by rw [nP_succ hpc, ← hn])
  have HT := hide (show tP (pcN c) (k + 1) = ln + pl from tP_succ hpc q4)
  have HX := hide hnx
  have H4 := hide hn4
  have HLT := hide hlt
  clear hpc q1 q2 q3 q4 hf hfl hnp hnx hnl hn4 hnn hlt9 ht hn
  go_wp2_with fail
  refine wp_region_F (fun w_ => Heap w0 w_ (HP.slw (.slice (some ⟨g, 0, none⟩) nn nn) 3 nn (pcsC (pcs c)) :: L)) (fun _ _ => True) (fun k_ v_ w_ => match k_ with
      | 0 => v_ = .int .i64 (n : Int)
      | 1 => v_ = .int .u32 (b : Int)
      | 2 => v_ = .slice (some ⟨g, 0, none⟩) nn nn
      | 3 => v_ = .int .i64 (k : Int)
      | 4 => v_ = .pointer (some ⟨g, k * 3, none⟩)
      | 5 => v_ = .pointer (some ⟨g, k * 3 + 0, none⟩)
      | 6 => v_ = .int .i64 (lo : Int)
      | 7 => v_ = .int .u32 ((b / 2 ^ lo : Nat) : Int)
      | 8 => v_ = .slice (some ⟨g, 0, none⟩) nn nn
      | 9 => v_ = .int .i64 (k : Int)
      | 10 => v_ = .pointer (some ⟨g, k * 3, none⟩)
      | 11 => v_ = .pointer (some ⟨g, k * 3 + 1, none⟩)
      | 12 => v_ = .int .i64 (ln : Int)
      | 13 => v_ = .int .u32 ((2 ^ ln : Nat) : Int)
      | 14 => v_ = .int .u32 ((2 ^ ln - 1 : Nat) : Int)
      | 15 => v_ = .int .u32 ((fd b lo ln : Nat) : Int)
      | 16 => v_ = .int .i64 ((fd b lo ln : Nat) : Int)
      | 17 => v_ = .slice (some ⟨g, 0, none⟩) nn nn
      | 18 => v_ = .int .i64 (k : Int)
      | 19 => v_ = .pointer (some ⟨g, k * 3, none⟩)
      | 20 => v_ = .pointer (some ⟨g, k * 3 + 2, none⟩)
      | 21 => v_ = .int .i64 (pl : Int)
      | 22 => v_ = .int .i64 ((fd b lo ln * 2 ^ pl : Nat) : Int)
      | 23 => v_ = .int .i64 ((n + fd b lo ln * 2 ^ pl : Nat) : Int)
      | _ => v_ = .int .i64 ((n + fd b lo ln * 2 ^ pl : Nat) : Int)) fol (by kernel_rfl) ?_ ?_ ?_ ?_
  · exact (unhide HJ).drew
  · intro k_ v_ w_ w2_ h1 hg
    split at h1 <;> exact h1
  · intro vals
    show wpG _ _ _ _ _ _ 0 (_ :: _) _
    refine wpG_cons (gval (.int .i64 (n : Int)) (fun _ => trivial) fun w_ hJ hd => ?_) ?_
    · exact ⟨by kernel_rfl, by kernel_rfl, rfl⟩
    refine wpG_cons (gval (.int .u32 (b : Int)) (fun _ => trivial) fun w_ hJ hd => ?_) ?_
    · exact ⟨by kernel_rfl, by kernel_rfl, rfl⟩
    refine wpG_cons (gval (.slice (some ⟨g, 0, none⟩) nn nn) (fun _ => trivial) fun w_ hJ hd => ?_) ?_
    · exact ⟨by kernel_rfl, by kernel_rfl, rfl⟩
    refine wpG_cons (gval (.int .i64 (k : Int)) (fun _ => trivial) fun w_ hJ hd => ?_) ?_
    · exact ⟨by kernel_rfl, by kernel_rfl, rfl⟩
    refine wpG_cons (gop (Instr.indexAt 64 (.slice (some ⟨g, 0, none⟩) nn nn) (.int .i64 (k : Int))) (.pointer (some ⟨g, k * 3, none⟩)) (fun _ => trivial) fun w_ hJ hd => ?_) ?_
    · have e2 : vals 2 = _ := hd 2 (by decide) (by kernel_rfl)
      have e3 : vals 3 = _ := hd 3 (by decide) (by kernel_rfl)
      rw [e2, e3]
      exact ⟨by kernel_rfl, by kernel_rfl, unhide FA w_, rfl⟩
    refine wpG_cons (gval (.pointer (some ⟨g, k * 3 + 0, none⟩)) (fun _ => trivial) fun w_ hJ hd => ?_) ?_
    · have e4 : vals 4 = _ := hd 4 (by decide) (by kernel_rfl)
      rw [e4]
      exact ⟨by kernel_rfl, by kernel_rfl, rfl⟩
    refine wpG_cons (gop (Instr.loadAt 3 (.pointer (some ⟨g, k * 3 + 0, none⟩))) (.int .i64 (lo : Int)) (fun _ => trivial) fun w_ hJ hd => ?_) ?_
    · have e5 : vals 5 = _ := hd 5 (by decide) (by kernel_rfl)
      rw [e5]
      exact ⟨by kernel_rfl, by kernel_rfl, run_load1 (by kernel_rfl) (pc_at hJ (unhide HPC)).1, rfl⟩
    refine wpG_cons (gop (binOp .shr 22 (.int .u32 (b : Int)) (.int .i64 (lo : Int))) (.int .u32 ((b / 2 ^ lo : Nat) : Int)) (fun _ => trivial) fun w_ hJ hd => ?_) ?_
    · have e1 : vals 1 = _ := hd 1 (by decide) (by kernel_rfl)
      have e6 : vals 6 = _ := hd 6 (by decide) (by kernel_rfl)
      rw [e1, e6]
      exact ⟨by kernel_rfl, by kernel_rfl, unhide F1 w_, rfl⟩
    refine wpG_cons (gval (.slice (some ⟨g, 0, none⟩) nn nn) (fun _ => trivial) fun w_ hJ hd => ?_) ?_
    · exact ⟨by kernel_rfl, by kernel_rfl, rfl⟩
    refine wpG_cons (gval (.int .i64 (k : Int)) (fun _ => trivial) fun w_ hJ hd => ?_) ?_
    · exact ⟨by kernel_rfl, by kernel_rfl, rfl⟩
    refine wpG_cons (gop (Instr.indexAt 64 (.slice (some ⟨g, 0, none⟩) nn nn) (.int .i64 (k : Int))) (.pointer (some ⟨g, k * 3, none⟩)) (fun _ => trivial) fun w_ hJ hd => ?_) ?_
    · have e8 : vals 8 = _ := hd 8 (by decide) (by kernel_rfl)
      have e9 : vals 9 = _ := hd 9 (by decide) (by kernel_rfl)
      rw [e8, e9]
      exact ⟨by kernel_rfl, by kernel_rfl, unhide FA w_, rfl⟩
    refine wpG_cons (gval (.pointer (some ⟨g, k * 3 + 1, none⟩)) (fun _ => trivial) fun w_ hJ hd => ?_) ?_
    · have e10 : vals 10 = _ := hd 10 (by decide) (by kernel_rfl)
      rw [e10]
      exact ⟨by kernel_rfl, by kernel_rfl, rfl⟩
    refine wpG_cons (gop (Instr.loadAt 3 (.pointer (some ⟨g, k * 3 + 1, none⟩))) (.int .i64 (ln : Int)) (fun _ => trivial) fun w_ hJ hd => ?_) ?_
    · have e11 : vals 11 = _ := hd 11 (by decide) (by kernel_rfl)
      rw [e11]
      exact ⟨by kernel_rfl, by kernel_rfl, run_load1 (by kernel_rfl) (pc_at hJ (unhide HPC)).2.1, rfl⟩
    refine wpG_cons (gop (binOp .shl 22 (.int .u32 1) (.int .i64 (ln : Int))) (.int .u32 ((2 ^ ln : Nat) : Int)) (fun _ => trivial) fun w_ hJ hd => ?_) ?_
    · have e12 : vals 12 = _ := hd 12 (by decide) (by kernel_rfl)
      rw [e12]
      exact ⟨by kernel_rfl, by kernel_rfl, unhide F2 w_, rfl⟩
    refine wpG_cons (gop (binOp .sub 22 (.int .u32 ((2 ^ ln : Nat) : Int)) (.int .u32 1)) (.int .u32 ((2 ^ ln - 1 : Nat) : Int)) (fun _ => trivial) fun w_ hJ hd => ?_) ?_
    · have e13 : vals 13 = _ := hd 13 (by decide) (by kernel_rfl)
      rw [e13]
      exact ⟨by kernel_rfl, by kernel_rfl, unhide F3 w_, rfl⟩
    refine wpG_cons (gop (binOp .and 22 (.int .u32 ((b / 2 ^ lo : Nat) : Int)) (.int .u32 ((2 ^ ln - 1 : Nat) : Int))) (.int .u32 ((fd b lo ln : Nat) : Int)) (fun _ => trivial) fun w_ hJ hd => ?_) ?_
    · have e7 : vals 7 = _ := hd 7 (by decide) (by kernel_rfl)
      have e14 : vals 14 = _ := hd 14 (by decide) (by kernel_rfl)
      rw [e7, e14]
      exact ⟨by kernel_rfl, by kernel_rfl, unhide F4 w_, rfl⟩
    refine wpG_cons (gop (convert 22 2 (.int .u32 ((fd b lo ln : Nat) : Int))) (.int .i64 ((fd b lo ln : Nat) : Int)) (fun _ => trivial) fun w_ hJ hd => ?_) ?_
    · have e15 : vals 15 = _ := hd 15 (by decide) (by kernel_rfl)
      rw [e15]
      exact ⟨by kernel_rfl, by kernel_rfl, unhide F5 w_, rfl⟩
    refine wpG_cons (gval (.slice (some ⟨g, 0, none⟩) nn nn) (fun _ => trivial) fun w_ hJ hd => ?_) ?_
    · exact ⟨by kernel_rfl, by kernel_rfl, rfl⟩
    refine wpG_cons (gval (.int .i64 (k : Int)) (fun _ => trivial) fun w_ hJ hd => ?_) ?_
    · exact ⟨by kernel_rfl, by kernel_rfl, rfl⟩
    refine wpG_cons (gop (Instr.indexAt 64 (.slice (some ⟨g, 0, none⟩) nn nn) (.int .i64 (k : Int))) (.pointer (some ⟨g, k * 3, none⟩)) (fun _ => trivial) fun w_ hJ hd => ?_) ?_
    · have e17 : vals 17 = _ := hd 17 (by decide) (by kernel_rfl)
      have e18 : vals 18 = _ := hd 18 (by decide) (by kernel_rfl)
      rw [e17, e18]
      exact ⟨by kernel_rfl, by kernel_rfl, unhide FA w_, rfl⟩
    refine wpG_cons (gval (.pointer (some ⟨g, k * 3 + 2, none⟩)) (fun _ => trivial) fun w_ hJ hd => ?_) ?_
    · have e19 : vals 19 = _ := hd 19 (by decide) (by kernel_rfl)
      rw [e19]
      exact ⟨by kernel_rfl, by kernel_rfl, rfl⟩
    refine wpG_cons (gop (Instr.loadAt 3 (.pointer (some ⟨g, k * 3 + 2, none⟩))) (.int .i64 (pl : Int)) (fun _ => trivial) fun w_ hJ hd => ?_) ?_
    · have e20 : vals 20 = _ := hd 20 (by decide) (by kernel_rfl)
      rw [e20]
      exact ⟨by kernel_rfl, by kernel_rfl, run_load1 (by kernel_rfl) (pc_at hJ (unhide HPC)).2.2, rfl⟩
    refine wpG_cons (gop (binOp .shl 2 (.int .i64 ((fd b lo ln : Nat) : Int)) (.int .i64 (pl : Int))) (.int .i64 ((fd b lo ln * 2 ^ pl : Nat) : Int)) (fun _ => trivial) fun w_ hJ hd => ?_) ?_
    · have e16 : vals 16 = _ := hd 16 (by decide) (by kernel_rfl)
      have e21 : vals 21 = _ := hd 21 (by decide) (by kernel_rfl)
      rw [e16, e21]
      exact ⟨by kernel_rfl, by kernel_rfl, unhide F6 w_, rfl⟩
    refine wpG_cons (gop (binOp .or 2 (.int .i64 (n : Int)) (.int .i64 ((fd b lo ln * 2 ^ pl : Nat) : Int))) (.int .i64 ((n + fd b lo ln * 2 ^ pl : Nat) : Int)) (fun _ => trivial) fun w_ hJ hd => ?_) ?_
    · have e0 : vals 0 = _ := hd 0 (by decide) (by kernel_rfl)
      have e22 : vals 22 = _ := hd 22 (by decide) (by kernel_rfl)
      rw [e0, e22]
      exact ⟨by kernel_rfl, by kernel_rfl, unhide F7 w_, rfl⟩
    refine wpG_cons (gval (.int .i64 ((n + fd b lo ln * 2 ^ pl : Nat) : Int)) (fun _ => trivial) fun w_ hJ hd => ?_) wpG_nil
    · have e23 : vals 23 = _ := hd 23 (by decide) (by kernel_rfl)
      rw [e23]
      exact ⟨by kernel_rfl, by kernel_rfl, rfl⟩
  · intro vals w_ hJ hf
    have e0 : vals 0 = _ := hf 0 (by decide)
    have e1 : vals 1 = _ := hf 1 (by decide)
    have e2 : vals 2 = _ := hf 2 (by decide)
    have e3 : vals 3 = _ := hf 3 (by decide)
    have e4 : vals 4 = _ := hf 4 (by decide)
    have e5 : vals 5 = _ := hf 5 (by decide)
    have e6 : vals 6 = _ := hf 6 (by decide)
    have e7 : vals 7 = _ := hf 7 (by decide)
    have e8 : vals 8 = _ := hf 8 (by decide)
    have e9 : vals 9 = _ := hf 9 (by decide)
    have e10 : vals 10 = _ := hf 10 (by decide)
    have e11 : vals 11 = _ := hf 11 (by decide)
    have e12 : vals 12 = _ := hf 12 (by decide)
    have e13 : vals 13 = _ := hf 13 (by decide)
    have e14 : vals 14 = _ := hf 14 (by decide)
    have e15 : vals 15 = _ := hf 15 (by decide)
    have e16 : vals 16 = _ := hf 16 (by decide)
    have e17 : vals 17 = _ := hf 17 (by decide)
    have e18 : vals 18 = _ := hf 18 (by decide)
    have e19 : vals 19 = _ := hf 19 (by decide)
    have e20 : vals 20 = _ := hf 20 (by decide)
    have e21 : vals 21 = _ := hf 21 (by decide)
    have e22 : vals 22 = _ := hf 22 (by decide)
    have e23 : vals 23 = _ := hf 23 (by decide)
    have e24 : vals 24 = _ := hf 24 (by decide)
    simp only [fillG, Nat.zero_add, Nat.reduceAdd, e0, e1, e2, e3, e4, e5, e6, e7, e8, e9, e10, e11, e12, e13, e14, e15, e16, e17, e18, e19, e20, e21, e22, e23, e24, Act.put, List.setIfInBounds_toArray, List.set_cons_succ, List.set_cons_zero]
    clear e0 e1 e2 e3 e4 e5 e6 e7 e8 e9 e10 e11 e12 e13 e14 e15 e16 e17 e18 e19 e20 e21 e22 e23 e24 hf
    clear HJ
    have HJ := hide hJ
    clear hJ
    go_wp2_with fail
    refine wp_region_F (fun w_ => Heap w0 w_ (HP.slw (.slice (some ⟨g, 0, none⟩) nn nn) 3 nn (pcsC (pcs c)) :: L)) (fun _ _ => True) (fun k_ v_ w_ => match k_ with
        | 0 => v_ = .int .i64 (tp : Int)
        | 1 => v_ = .slice (some ⟨g, 0, none⟩) nn nn
        | 2 => v_ = .int .i64 (k : Int)
        | 3 => v_ = .pointer (some ⟨g, k * 3, none⟩)
        | 4 => v_ = .pointer (some ⟨g, k * 3 + 1, none⟩)
        | 5 => v_ = .int .i64 (ln : Int)
        | 6 => v_ = .slice (some ⟨g, 0, none⟩) nn nn
        | 7 => v_ = .int .i64 (k : Int)
        | 8 => v_ = .pointer (some ⟨g, k * 3, none⟩)
        | 9 => v_ = .pointer (some ⟨g, k * 3 + 2, none⟩)
        | 10 => v_ = .int .i64 (pl : Int)
        | 11 => v_ = .int .i64 ((ln + pl : Nat) : Int)
        | 12 => v_ = .int .i64 ((ln + pl : Nat) : Int)
        | _ => v_ = .int .i64 ((ln + pl : Nat) : Int)) fol (by kernel_rfl) ?_ ?_ ?_ ?_
    · exact (unhide HJ).drew
    · intro k_ v_ w_ w2_ h1 hg
      split at h1 <;> exact h1
    · intro vals
      show wpG _ _ _ _ _ _ 0 (_ :: _) _
      refine wpG_cons (gval (.int .i64 (tp : Int)) (fun _ => trivial) fun w_ hJ hd => ?_) ?_
      · exact ⟨by kernel_rfl, by kernel_rfl, rfl⟩
      refine wpG_cons (gval (.slice (some ⟨g, 0, none⟩) nn nn) (fun _ => trivial) fun w_ hJ hd => ?_) ?_
      · exact ⟨by kernel_rfl, by kernel_rfl, rfl⟩
      refine wpG_cons (gval (.int .i64 (k : Int)) (fun _ => trivial) fun w_ hJ hd => ?_) ?_
      · exact ⟨by kernel_rfl, by kernel_rfl, rfl⟩
      refine wpG_cons (gop (Instr.indexAt 64 (.slice (some ⟨g, 0, none⟩) nn nn) (.int .i64 (k : Int))) (.pointer (some ⟨g, k * 3, none⟩)) (fun _ => trivial) fun w_ hJ hd => ?_) ?_
      · have e1 : vals 1 = _ := hd 1 (by decide) (by kernel_rfl)
        have e2 : vals 2 = _ := hd 2 (by decide) (by kernel_rfl)
        rw [e1, e2]
        exact ⟨by kernel_rfl, by kernel_rfl, unhide FA w_, rfl⟩
      refine wpG_cons (gval (.pointer (some ⟨g, k * 3 + 1, none⟩)) (fun _ => trivial) fun w_ hJ hd => ?_) ?_
      · have e3 : vals 3 = _ := hd 3 (by decide) (by kernel_rfl)
        rw [e3]
        exact ⟨by kernel_rfl, by kernel_rfl, rfl⟩
      refine wpG_cons (gop (Instr.loadAt 3 (.pointer (some ⟨g, k * 3 + 1, none⟩))) (.int .i64 (ln : Int)) (fun _ => trivial) fun w_ hJ hd => ?_) ?_
      · have e4 : vals 4 = _ := hd 4 (by decide) (by kernel_rfl)
        rw [e4]
        exact ⟨by kernel_rfl, by kernel_rfl, run_load1 (by kernel_rfl) (pc_at hJ (unhide HPC)).2.1, rfl⟩
      refine wpG_cons (gval (.slice (some ⟨g, 0, none⟩) nn nn) (fun _ => trivial) fun w_ hJ hd => ?_) ?_
      · exact ⟨by kernel_rfl, by kernel_rfl, rfl⟩
      refine wpG_cons (gval (.int .i64 (k : Int)) (fun _ => trivial) fun w_ hJ hd => ?_) ?_
      · exact ⟨by kernel_rfl, by kernel_rfl, rfl⟩
      refine wpG_cons (gop (Instr.indexAt 64 (.slice (some ⟨g, 0, none⟩) nn nn) (.int .i64 (k : Int))) (.pointer (some ⟨g, k * 3, none⟩)) (fun _ => trivial) fun w_ hJ hd => ?_) ?_
      · have e6 : vals 6 = _ := hd 6 (by decide) (by kernel_rfl)
        have e7 : vals 7 = _ := hd 7 (by decide) (by kernel_rfl)
        rw [e6, e7]
        exact ⟨by kernel_rfl, by kernel_rfl, unhide FA w_, rfl⟩
      refine wpG_cons (gval (.pointer (some ⟨g, k * 3 + 2, none⟩)) (fun _ => trivial) fun w_ hJ hd => ?_) ?_
      · have e8 : vals 8 = _ := hd 8 (by decide) (by kernel_rfl)
        rw [e8]
        exact ⟨by kernel_rfl, by kernel_rfl, rfl⟩
      refine wpG_cons (gop (Instr.loadAt 3 (.pointer (some ⟨g, k * 3 + 2, none⟩))) (.int .i64 (pl : Int)) (fun _ => trivial) fun w_ hJ hd => ?_) ?_
      · have e9 : vals 9 = _ := hd 9 (by decide) (by kernel_rfl)
        rw [e9]
        exact ⟨by kernel_rfl, by kernel_rfl, run_load1 (by kernel_rfl) (pc_at hJ (unhide HPC)).2.2, rfl⟩
      refine wpG_cons (gop (binOp .add 3 (.int .i64 (ln : Int)) (.int .i64 (pl : Int))) (.int .i64 ((ln + pl : Nat) : Int)) (fun _ => trivial) fun w_ hJ hd => ?_) ?_
      · have e5 : vals 5 = _ := hd 5 (by decide) (by kernel_rfl)
        have e10 : vals 10 = _ := hd 10 (by decide) (by kernel_rfl)
        rw [e5, e10]
        exact ⟨by kernel_rfl, by kernel_rfl, unhide F8 w_, rfl⟩
      refine wpG_cons (gop (Builtin.max_ #[3, 3] 3 #[.int .i64 (tp : Int), .int .i64 ((ln + pl : Nat) : Int)]) (.int .i64 ((ln + pl : Nat) : Int)) (fun _ => trivial) fun w_ hJ hd => ?_) ?_
      · have e0 : vals 0 = _ := hd 0 (by decide) (by kernel_rfl)
        have e11 : vals 11 = _ := hd 11 (by decide) (by kernel_rfl)
        rw [e0, e11]
        exact ⟨by kernel_rfl, by kernel_rfl, unhide F9 w_, rfl⟩
      refine wpG_cons (gval (.int .i64 ((ln + pl : Nat) : Int)) (fun _ => trivial) fun w_ hJ hd => ?_) wpG_nil
      · have e12 : vals 12 = _ := hd 12 (by decide) (by kernel_rfl)
        rw [e12]
        exact ⟨by kernel_rfl, by kernel_rfl, rfl⟩
    · intro vals w_ hJ hf
      have e0 : vals 0 = _ := hf 0 (by decide)
      have e1 : vals 1 = _ := hf 1 (by decide)
      have e2 : vals 2 = _ := hf 2 (by decide)
      have e3 : vals 3 = _ := hf 3 (by decide)
      have e4 : vals 4 = _ := hf 4 (by decide)
      have e5 : vals 5 = _ := hf 5 (by decide)
      have e6 : vals 6 = _ := hf 6 (by decide)
      have e7 : vals 7 = _ := hf 7 (by decide)
      have e8 : vals 8 = _ := hf 8 (by decide)
      have e9 : vals 9 = _ := hf 9 (by decide)
      have e10 : vals 10 = _ := hf 10 (by decide)
      have e11 : vals 11 = _ := hf 11 (by decide)
      have e12 : vals 12 = _ := hf 12 (by decide)
      have e13 : vals 13 = _ := hf 13 (by decide)
      simp only [fillG, Nat.zero_add, Nat.reduceAdd, e0, e1, e2, e3, e4, e5, e6, e7, e8, e9, e10, e11, e12, e13, Act.put, List.setIfInBounds_toArray, List.set_cons_succ, List.set_cons_zero]
      clear e0 e1 e2 e3 e4 e5 e6 e7 e8 e9 e10 e11 e12 e13 hf
      clear HJ
      have HJ := hide hJ
      clear hJ
      have h4 := unhide H4
      go_wp2
      have e7 : (k : Int) + 1 = ((k + 1 : Nat) : Int) := rfl
      try rw [e7]
      refine ⟨⟨k + 1, n + fd b lo ln * 2 ^ pl, ln + pl, ⟨hlt, (unhide HN).symm, (unhide HT).symm, unhide HX, unhide HJ⟩, ?_⟩, by simp [WmuI2, intOf]; omega⟩
      unfold FRI2
      refine ⟨_, _, _, _, _, _, _, _, _, _, _, _, _, _, _, _, _, _, _, _, _, _, _, _, _, _, _, _, _, _, _, _, _, _, _, _, _, _, _, _, _, _, _, rfl⟩
set_option maxRecDepth 1000000 in
set_option maxHeartbeats 8000000 in
theorem roundI2 (hA : 0 < nn → ∃ g, A = some ⟨g, 0, none⟩) (hnn : nn = (pcN c).length) (Q0 : Exit → Act → World → Prop) (c0 c1 c3 c4 c5 c6 x1 x2 x3 x4 x5 x6 x7 x8 x9 xA xB xC xD xE xF xG xH xI xJ xK xL xM xN xO xP xQ xR xS xT xU xV : Value) (hexit : ∀ a' w'', WXI2 c0 c1 c3 c4 c5 c6 x1 x2 x3 x4 x5 x6 x7 x8 x9 xA xB xC xD xE xF xG xH xI xJ xK xL xM xN xO xP xQ xR xS xT xU xV w0 L c b A nn a' w'' → Q0 (.exit 0) a' w'') {a : Act} {wr : World} (hI : WII2 c0 c1 c3 c4 c5 c6 x1 x2 x3 x4 x5 x6 x7 x8 x9 xA xB xC xD xE xF xG xH xI xJ xK xL xM xN xO xP xQ xR xS xT xU xV w0 L c b A nn a wr) :
    Code.wp Try.prog bodyI2 (Exit.then (fun a' w'' => WII2 c0 c1 c3 c4 c5 c6 x1 x2 x3 x4 x5 x6 x7 x8 x9 xA xB xC xD xE xF xG xH xI xJ xK xL xM xN xO xP xQ xR xS xT xU xV w0 L c b A nn a' w'' ∧ WmuI2 nn a' w'' < WmuI2 nn a wr) Q0) a wr := by
  obtain ⟨k, n, tp, ⟨hk, hn, ht, hl, hJ⟩, hF⟩ := hI
  unfold FRI2 at hF
  obtain ⟨xW, hF⟩ := hF
  obtain ⟨xX, hF⟩ := hF
  obtain ⟨xY, hF⟩ := hF
  obtain ⟨xZ, hF⟩ := hF
  obtain ⟨xa, hF⟩ := hF
  obtain ⟨xb, hF⟩ := hF
  obtain ⟨xc, hF⟩ := hF
  obtain ⟨xd, hF⟩ := hF
  obtain ⟨xe, hF⟩ := hF
  obtain ⟨xf, hF⟩ := hF
  obtain ⟨xg, hF⟩ := hF
  obtain ⟨xh, hF⟩ := hF
  obtain ⟨xi, hF⟩ := hF
  obtain ⟨xj, hF⟩ := hF
  obtain ⟨xk, hF⟩ := hF
  obtain ⟨xl, hF⟩ := hF
  obtain ⟨xm, hF⟩ := hF
  obtain ⟨xn, hF⟩ := hF
  obtain ⟨x0, hF⟩ := hF
  obtain ⟨xo, hF⟩ := hF
  obtain ⟨xp, hF⟩ := hF
  obtain ⟨xq, hF⟩ := hF
  obtain ⟨xr, hF⟩ := hF
  obtain ⟨xt, hF⟩ := hF
  obtain ⟨xu, hF⟩ := hF
  obtain ⟨xv, hF⟩ := hF
  obtain ⟨xw, hF⟩ := hF
  obtain ⟨y0, hF⟩ := hF
  obtain ⟨y1, hF⟩ := hF
  obtain ⟨y2, hF⟩ := hF
  obtain ⟨y3, hF⟩ := hF
  obtain ⟨y4, hF⟩ := hF
  obtain ⟨y5, hF⟩ := hF
  obtain ⟨y6, hF⟩ := hF
  obtain ⟨y7, hF⟩ := hF
  obtain ⟨y8, hF⟩ := hF
  obtain ⟨y9, hF⟩ := hF
  obtain ⟨yA, hF⟩ := hF
  obtain ⟨yB, hF⟩ := hF
  obtain ⟨yC, hF⟩ := hF
  obtain ⟨yD, hF⟩ := hF
  obtain ⟨yE, hF⟩ := hF
  obtain ⟨yF, hF⟩ := hF
  subst hF
  by_cases hlt : k < nn
  · exact oneI2 hA hnn hn ht hl hJ hlt Q0 _ _ _ _ _ _ _ _ _ _ _ _ _ _ _ _ _ _ _ _ _ _ _ _ _ _ _ _ _ _ _ _ _ _ _ _ _ _ _ _ _ _ _ _ _ _ _ _ _ _ _ _ _ _ _ _ _ _ _ _ _ _ _ _ _ _ _ _ _ _ _ _ _ _ _ _ _ _ _ _
  · obtain rfl : k = nn := by omega
    have HJ := hide hJ
    have HL := hide hl
    have HN := hide hn
    have HT := hide ht
    clear hJ hl hnn hn ht hA
    conv => arg 2; whnf
    go_wp2
    refine ⟨n, tp, ⟨unhide HN, unhide HT, unhide HL, unhide HJ⟩, ?_⟩
    unfold FRI2
    refine ⟨_, _, _, _, _, _, _, _, _, _, _, _, _, _, _, _, _, _, _, _, _, _, _, _, _, _, _, _, _, _, _, _, _, _, _, _, _, _, _, _, _, _, _, rfl⟩
set_option maxRecDepth 1000000 in
theorem loopI2 (hA : 0 < nn → ∃ g, A = some ⟨g, 0, none⟩) (hnn : nn = (pcN c).length) (Q0 : Exit → Act → World → Prop) (c0 c1 c3 c4 c5 c6 x1 x2 x3 x4 x5 x6 x7 x8 x9 xA xB xC xD xE xF xG xH xI xJ xK xL xM xN xO xP xQ xR xS xT xU xV : Value) {wr : World} (hJ : Heap w0 wr (HP.slw (.slice A nn nn) 3 nn (pcsC (pcs c)) :: L)) (xW xX xY xZ xa xb xc xd xe xf xg xh xi xj xk xl xm xn x0 xo xp xq xr xt xu xv xw y0 y1 y2 y3 y4 y5 y6 y7 y8 y9 yA yB yC yD yE yF : Value) (hexit : ∀ a' w'', WXI2 c0 c1 c3 c4 c5 c6 x1 x2 x3 x4 x5 x6 x7 x8 x9 xA xB xC xD xE xF xG xH xI xJ xK xL xM xN xO xP xQ xR xS xT xU xV w0 L c b A nn a' w'' → Q0 (.exit 0) a' w'') :
    Code.wp Try.prog (Code.loop bodyI2) Q0 ⟨#[c0, c1, .int .u32 (b : Int), c3, c4, c5, c6, .slice A nn nn, .int .i64 0, .int .i64 0, .int .i64 0, x1, x2, x3, xW, xX, xY, xZ, xa, xb, xc, xd, xe, xf, xg, xh, xi, xj, xk, xl, xm, xn, x0, xo, xp, xq, xr, xt, xu, xv, xw, y0, y1, y2, y3, y4, y5, y6, y7, y8, y9, yA, yB, yC, yD, yE, yF, x4, x5, x6, x7, x8, x9, xA, xB, xC, xD, xE, xF, xG, xH, xI, xJ, xK, xL, xM, xN, xO, xP, xQ, xR, xS, xT, xU, xV], []⟩ wr := by
  refine wp_loop (WII2 c0 c1 c3 c4 c5 c6 x1 x2 x3 x4 x5 x6 x7 x8 x9 xA xB xC xD xE xF xG xH xI xJ xK xL xM xN xO xP xQ xR xS xT xU xV w0 L c b A nn) (WmuI2 nn) ⟨0, 0, 0, ⟨Nat.zero_le _, rfl, rfl, by decide, hJ⟩, ?_⟩ (fun a w'' hI => roundI2 hA hnn Q0 c0 c1 c3 c4 c5 c6 x1 x2 x3 x4 x5 x6 x7 x8 x9 xA xB xC xD xE xF xG xH xI xJ xK xL xM xN xO xP xQ xR xS xT xU xV hexit hI)
  unfold FRI2
  exact ⟨xW, xX, xY, xZ, xa, xb, xc, xd, xe, xf, xg, xh, xi, xj, xk, xl, xm, xn, x0, xo, xp, xq, xr, xt, xu, xv, xw, y0, y1, y2, y3, y4, y5, y6, y7, y8, y9, yA, yB, yC, yD, yE, yF, rfl⟩
end Go.Proofs.Ytopbdiekfhikmaa
