/- Layer 3: some answers that the document fixes. -/
import Derived.Test.YtopbdiekfhikmaaD10F
import Derived.Test.YtopbdiekfhikmaaRegionO
import Derived.BigQuiet
namespace Go.Proofs.Ytopbdiekfhikmaa
open Go.RowKit
def or32 (a b : Nat) : Nat := (a ||| b) % 4294967296

theorem or32_cast (a b : Nat) : ((or32 a b : Nat) : Int) = bits .or .u32 (a : Int) (b : Int) := by
  show _ = ((BitVec.ofInt 32 (a : Int) ||| BitVec.ofInt 32 (b : Int)).toNat : Int) % 2 ^ 32
  unfold or32
  rw [BitVec.toNat_or, bv_ofInt, bv_ofInt, ← Nat.or_mod_two_pow]
  omega

def pt (n : Int) (w : Nat) : Nat := (n % 2 ^ w).toNat

def putN (n : Int) (s w : Nat) : Nat := pt n w * 2 ^ s % 4294967296

theorem pt_lt (n : Int) (w : Nat) : pt n w < 2 ^ w := by
  unfold pt
  have h1 : (0 : Int) < 2 ^ w := Int.pow_pos (by decide)
  have h2 := Int.emod_lt_of_pos n h1
  have h3 := Int.emod_nonneg n (show (2 : Int) ^ w ≠ 0 by omega)
  have h4 : ((2 ^ w : Nat) : Int) = (2 : Int) ^ w := by simp
  omega

set_option maxRecDepth 100000 in
theorem put_any (n : Int) (s w : Nat) (hw : w < 31) (hs : s < 32) (W : World) : Calls Try.prog 46 #[.int .i64 n, .int .i64 s, .int .i64 w] W fun e w' => e = .returned (.int .u32 (putN n s w : Nat)) ∧ ∃ m, w' = W.drewN m := by
  have e1 := and64 n w (by omega)
  have h1 : (0 : Int) < 2 ^ w := Int.pow_pos (by decide)
  have h3 := Int.emod_nonneg n (show (2 : Int) ^ w ≠ 0 by omega)
  have h4 : ((2 ^ w : Nat) : Int) = (2 : Int) ^ w := by simp
  have hb1 : (2 : Nat) ^ w ≤ 2 ^ 30 := Nat.pow_le_pow_right (n := 2) (by omega) (by omega)
  have hb2 : (1 : Nat) ≤ 2 ^ w := Nat.one_le_two_pow
  have h5 := pt_lt n w
  have h6 : n % 2 ^ w = (pt n w : Nat) := by unfold pt; omega
  have H6 := hide h6
  clear h3 h6
  have k1 : (0 : Int) ≤ w := by omega
  have k2 : (0 : Int) ≤ s := by omega
  have k3 : (w : Int).toNat = w := by omega
  have k4 : (s : Int).toNat = s := by omega
  go_enter Try.func46, Try.ntmps46
  go_wp2
  go_ret
  refine ⟨congrArg (fun x => Ending.returned (Value.int .u32 x)) ?_, dr0 _⟩
  unfold putN
  rw [unhide H6, Int.natCast_emod, Int.natCast_mul, Int.natCast_pow]
  rfl

theorem mark_any (u : Bool) (W : World) : Calls Try.prog 49 #[.bool u] W fun e w' => e = .returned (.int .u32 (u.toNat : Nat)) ∧ ∃ m, w' = W.drewN m := by
  cases u
  · go_enter Try.func49, Try.ntmps49
    go_wp2
    go_ret
    exact ⟨rfl, dr0 _⟩
  · go_enter Try.func49, Try.ntmps49
    go_wp2
    go_ret
    exact ⟨rfl, dr0 _⟩

def rN (rd r1 r2 : Int) : Nat := or32 (or32 (putN rd 7 5) (putN r1 15 5)) (putN r2 20 5)

def iN (rd r1 i : Int) : Nat := or32 (or32 (putN rd 7 5) (putN r1 15 5)) (putN i 20 12)

set_option maxRecDepth 100000 in
set_option maxHeartbeats 2000000 in
theorem r_any (k rd r1 r2 r3 rm c sz i : Int) (hi : (Lit.int .i64 i).wf = true) (u us wd : Bool) (W : World) : Calls Try.prog 51 #[.agg #[.int .i64 k, .int .i64 rd, .int .i64 r1, .int .i64 r2, .int .i64 r3, .int .i64 rm, .int .i64 c, .int .i64 sz, .int .i64 i, .bool u, .bool us, .bool wd]] W fun e w' => e = .returned (.int .u32 (rN rd r1 r2 : Nat)) ∧ GN W w' := by
  obtain ⟨z, hz⟩ : ∃ z : Int, z = ((rN rd r1 r2 : Nat) : Int) := ⟨_, rfl⟩
  rw [← hz]
  unfold rN at hz
  simp only [or32_cast] at hz
  have Hz := hide hz
  clear hz
  have hi2 := i64' hi
  have hi3 : -9223372036854775808 ≤ i / 32 ∧ i / 32 < 9223372036854775808 := by omega
  go_enter Try.func51, Try.ntmps51
  go_upto_region 1 with fail
  go_quiet ((go_at_call 46; exact Calls.quiet_of (put_any _ _ _ (by decide) (by decide) _)))
  go_wp2
  go_ret
  exact ⟨congrArg (fun x => Ending.returned (Value.int .u32 x)) (unhide Hz).symm, ((GN.refl W).alloc _).drewN _⟩

set_option maxRecDepth 100000 in
set_option maxHeartbeats 2000000 in
theorem i_any (k rd r1 r2 r3 rm c sz i : Int) (hi : (Lit.int .i64 i).wf = true) (u us wd : Bool) (W : World) : Calls Try.prog 47 #[.agg #[.int .i64 k, .int .i64 rd, .int .i64 r1, .int .i64 r2, .int .i64 r3, .int .i64 rm, .int .i64 c, .int .i64 sz, .int .i64 i, .bool u, .bool us, .bool wd]] W fun e w' => e = .returned (.int .u32 (iN rd r1 i : Nat)) ∧ GN W w' := by
  obtain ⟨z, hz⟩ : ∃ z : Int, z = ((iN rd r1 i : Nat) : Int) := ⟨_, rfl⟩
  rw [← hz]
  unfold iN at hz
  simp only [or32_cast] at hz
  have Hz := hide hz
  clear hz
  have hi2 := i64' hi
  have hi3 : -9223372036854775808 ≤ i / 32 ∧ i / 32 < 9223372036854775808 := by omega
  go_enter Try.func47, Try.ntmps47
  go_upto_region 1 with fail
  go_quiet ((go_at_call 46; exact Calls.quiet_of (put_any _ _ _ (by decide) (by decide) _)))
  go_wp2
  go_ret
  exact ⟨congrArg (fun x => Ending.returned (Value.int .u32 x)) (unhide Hz).symm, ((GN.refl W).alloc _).drewN _⟩

def plF : List Int → Int → Nat → Int
  | [], _, _ => -1
  | v :: r, k, i => if v = k ∧ v ≠ 0 then i else plF r k (i + 1)

def placeN (l : List Int) (k : Int) : Int := plF l k 0

set_option maxRecDepth 100000 in
theorem place_any (l : List Int) (k : Int) (g n : Nat) (hn : l.length = n) (hn2 : n < 100) (W : World) (hc : ∀ j v, l[j]? = some v → W.cell? ⟨g, j, none⟩ = some (.int .i64 v)) : Calls Try.prog 52 #[.slice (some ⟨g, 0, none⟩) n n, .int .i64 k] W fun e w' => e = .returned (.int .i64 (placeN l k)) ∧ ∃ m, w' = W.drewN m := by
  go_enter Try.func52, Try.ntmps52
  go_wp2
  go_loopw [9] (fun i9 wr => ∃ j : Nat, i9 = .int .i64 j ∧ j ≤ n ∧ placeN l k = plF (l.drop j) k j ∧ wr = W) (fun i9 _ => n - (intOf i9).toNat)
  case atStart => exact ⟨0, rfl, Nat.zero_le _, rfl, rfl⟩
  case round =>
    obtain ⟨j, rfl, hj, hp, rfl⟩ := hrel
    have Hp := hide hp
    clear hp
    by_cases hjn : j < n
    · obtain ⟨v, hv, hd⟩ : ∃ v, l[j]? = some v ∧ l.drop j = v :: l.drop (j + 1) := ⟨l[j]'(by omega), List.getElem?_eq_getElem _, List.drop_eq_getElem_cons _⟩
      have cv := hc j v hv
      have hd := hide hd
      have Hv := hide hv
      clear hv hc
      have k1 : (j : Int) < n := by omega
      have k3 : j < 100 := by omega
      by_cases q : v = k ∧ v ≠ 0
      · have q1 := eq_t q.1
        have q2 := ne_t q.2
        have hq := hide q
        clear q
        go_wp2
        go_ret
        refine ⟨congrArg (fun x => Ending.returned (Value.int .i64 x)) ?_, dr0 _⟩
        rw [unhide Hp, unhide hd, plF, if_pos (unhide hq)]
      · have hq := hide q
        have qc : v ≠ k ∨ v = 0 := by omega
        clear q
        rcases qc with q1 | q1
        · have q2 := ne_b q1
          go_wp2
          refine ⟨⟨j + 1, rfl, hjn, ?_, trivial⟩, by simp only [intOf]; omega⟩
          rw [unhide Hp, unhide hd, plF, if_neg (unhide hq)]
        · subst q1
          go_wp2
          all_goals (refine ⟨⟨j + 1, rfl, hjn, ?_, trivial⟩, by simp only [intOf]; omega⟩)
          all_goals (rw [unhide Hp, unhide hd, plF, if_neg (unhide hq)])
    · obtain rfl : n = j := by omega
      have k1 : ¬ ((n : Int) < n) := by omega
      go_wp2
      go_ret
      refine ⟨?_, dr0 _⟩
      rw [unhide Hp, List.drop_eq_nil_of_le (by omega)]
      rfl

def sumsL : List Int := [13, 15, 16, 17, 18, 19, 21, 22]

def prodL : List Int := [23, 24, 25, 26, 27, 28, 29, 30]

def sumOp (ui wd : Bool) : Nat := or32 (if ui then 19 else 51) (wd.toNat * 8 % 4294967296)

def sumB (f h : Nat) (rd r1 r2 i : Int) (ui wd : Bool) : Nat := or32 (or32 (sumOp ui wd) (or32 (f * 4096) (h * 33554432))) (if ui then iN rd r1 i else rN rd r1 r2)

theorem cells_of {W : World} {g T : Nat} {l : List Int} {cs : Array Value} (hcs : cs = (l.map fun v => Value.int .i64 v).toArray) (h : W.heap[g]? = some (.cells cs T (0, 0))) : ∀ j v, l[j]? = some v → W.cell? ⟨g, j, none⟩ = some (.int .i64 v) := by
  subst hcs
  intro j v hv
  rw [(cell_blk h j).1]
  simp [hv]

theorem cutS {w W0 : World} {c : Code} {Q : Exit → Act → World → Prop} {a : Act} {g5 g6 : Nat} {x y z : Array Value} (hg : GN w W0) (hx : W0.heap[w.heap.size]? = some (.cells x 25 (0, 0))) (h5 : W0.heap[g5]? = some (.cells y 38 (0, 0))) (h6 : W0.heap[g6]? = some (.cells z 38 (0, 0)))
    (k : ∀ W, GN w W → W.heap[w.heap.size]? = some (.cells x 25 (0, 0)) → W.heap[g5]? = some (.cells y 38 (0, 0)) → W.heap[g6]? = some (.cells z 38 (0, 0)) → Code.wp Try.prog c Q a W) : Code.wp Try.prog c Q a W0 := k W0 hg hx h5 h6

set_option maxRecDepth 100000 in
set_option maxHeartbeats 4000000 in
theorem sum_pf (k rd r1 r2 r3 rm c sz i : Int) (hi : (Lit.int .i64 i).wf = true) (us wd : Bool) (w : World) (k14 : (k == 14) = false) (k20 : (k == 20) = false) (f : Nat) (hs : placeN sumsL k = -1) (hf : placeN prodL k = f) (hf8 : f < 8) : Calls Try.prog 53 #[.agg #[.int .i64 k, .int .i64 rd, .int .i64 r1, .int .i64 r2, .int .i64 r3, .int .i64 rm, .int .i64 c, .int .i64 sz, .int .i64 i, .bool false, .bool us, .bool wd]] w fun e w' => e = .returned (.tuple #[.int .u32 (sumB f 1 rd r1 r2 i false wd : Nat), .bool true]) ∧ GN w w' := by
  obtain ⟨z, hz⟩ : ∃ z : Int, z = ((sumB f 1 rd r1 r2 i false wd : Nat) : Int) := ⟨_, rfl⟩
  rw [← hz]
  simp only [sumB, sumOp, or32_cast, if_true, if_false, Bool.false_eq_true, Int.natCast_emod, Int.natCast_mul] at hz
  have Hz := hide hz
  clear hz
  go_enter Try.func53, Try.ntmps53
  go_upto_region 6 with (first | (go_at_call 49; refine (mark_any _ _).mono ?_; rintro _ _ ⟨rfl, m_, rfl⟩) | (go_at_call 35; refine (sums_any _).mono ?_; rintro _ _ ⟨rfl, o_, rfl⟩) | (go_at_call 37; refine (products_any _).mono ?_; rintro _ _ ⟨rfl, o_, rfl⟩))
  refine cutS (w := w) (g5 := w.heap.size + 1 + 1 + 1) (g6 := w.heap.size + 1 + 1 + 1 + 1) (x := #[.int .i64 k, .int .i64 rd, .int .i64 r1, .int .i64 r2, .int .i64 r3, .int .i64 rm, .int .i64 c, .int .i64 sz, .int .i64 i, .bool false, .bool us, .bool wd]) (y := #[.int .i64 13, .int .i64 15, .int .i64 16, .int .i64 17, .int .i64 18, .int .i64 19, .int .i64 21, .int .i64 22]) (z := #[.int .i64 23, .int .i64 24, .int .i64 25, .int .i64 26, .int .i64 27, .int .i64 28, .int .i64 29, .int .i64 30]) ?_ ?_ ?_ ?_ fun W hgW hx h5 h6 => ?_
  · (repeat (first | with_reducible exact GN.refl _ | with_reducible assumption | (with_reducible refine GN.set ?_ ?_ _ _; rotate_left; · first | assumption | (simp; done)) | with_reducible refine GN.alloc ?_ _ | with_reducible refine GN.drewN ?_ _))
  · (repeat (first | with_reducible assumption | with_reducible apply hp_row12 | (with_reducible refine hp_last ?_; · simp) | (with_reducible refine hp_set ?_ ?_; · first | assumption | (simp; done)) | with_reducible refine hp_drewN ?_ | with_reducible refine hp_alloc ?_))
  · (repeat (first | with_reducible assumption | with_reducible apply hp_row12 | (with_reducible refine hp_last ?_; · simp) | (with_reducible refine hp_set ?_ ?_; · first | assumption | (simp; done)) | with_reducible refine hp_drewN ?_ | with_reducible refine hp_alloc ?_))
  · (repeat (first | with_reducible assumption | with_reducible apply hp_row12 | (with_reducible refine hp_last ?_; · simp) | (with_reducible refine hp_set ?_ ?_; · first | assumption | (simp; done)) | with_reducible refine hp_drewN ?_ | with_reducible refine hp_alloc ?_))
  have W1 := lt_of_heap' hx
  have W2 := lt_of_heap' h5
  have W3 := lt_of_heap' h6
  generalize hg5 : w.heap.size + 1 + 1 + 1 = g5 at *
  generalize hg6 : g5 + 1 = g6 at *
  clear hg5 hg6
  have C5 := hide (cells_of (l := sumsL) rfl h5)
  have C6 := hide (cells_of (l := prodL) rfl h6)
  obtain ⟨⟨p0, q0⟩, ⟨p1, q1⟩, ⟨p2, q2⟩, ⟨p3, q3⟩, ⟨p4, q4⟩, ⟨p5, q5⟩, ⟨p6, q6⟩, ⟨p7, q7⟩, ⟨p8, q8⟩, ⟨p9, q9⟩, ⟨p10, q10⟩, ⟨p11, q11⟩⟩ := c12 hx
  go_quiet ((go_at_call 52; exact Calls.quiet_of (place_any sumsL k g5 8 rfl (by decide) _ (unhide C5))))
  go_upto_region 14 with fail
  clear p0 q0 p1 q1 p2 q2 p3 q3 p4 q4 p5 q5 p6 q6 p7 q7 p8 q8 p9 q9 p10 q10 p11 q11 C5 C6 W1 W2 W3
  refine cutS (w := w) (g5 := g5) (g6 := g6) (hgW.drewN _) hx h5 h6 fun W4 hgW4 hx4 h54 h64 => ?_
  clear hgW hx h5 h6
  have W1 := lt_of_heap' hx4
  have W2 := lt_of_heap' h54
  have W3 := lt_of_heap' h64
  have C6 := hide (cells_of (l := prodL) rfl h64)
  obtain ⟨⟨p0, q0⟩, ⟨p1, q1⟩, ⟨p2, q2⟩, ⟨p3, q3⟩, ⟨p4, q4⟩, ⟨p5, q5⟩, ⟨p6, q6⟩, ⟨p7, q7⟩, ⟨p8, q8⟩, ⟨p9, q9⟩, ⟨p10, q10⟩, ⟨p11, q11⟩⟩ := c12 hx4
  go_quiet ((go_at_call 52; exact Calls.quiet_of (place_any prodL k g6 8 rfl (by decide) _ (unhide C6))))
  go_wp2_with (first | (go_at_call 47; refine (i_any _ _ _ _ _ _ _ _ _ (by assumption) _ _ _ _).mono ?_; rintro _ w2 ⟨rfl, hq⟩) | (go_at_call 51; refine (r_any _ _ _ _ _ _ _ _ _ (by assumption) _ _ _ _).mono ?_; rintro _ w2 ⟨rfl, hq⟩))
  go_ret2
  exact ⟨by rw [unhide Hz]; rfl, GN.trans (hgW4.drewN _) hq⟩

theorem sum_23 (k : Int) (hk : 23 = k) (w : World) : Calls Try.prog 53 #[.agg #[.int .i64 k, .int .i64 10, .int .i64 10, .int .i64 11, .int .i64 0, .int .i64 0, .int .i64 0, .int .i64 0, .int .i64 0, .bool false, .bool false, .bool false]] w fun e w' => e = .returned (.tuple #[.int .u32 45417779, .bool true]) ∧ GN w w' := by
  subst hk
  have h := sum_pf 23 10 10 11 0 0 0 0 0 (by decide) false false w (by decide) (by decide) 0 (by decide) (by decide) (by decide)
  rw [show sumB 0 1 10 10 11 0 false false = 45417779 from by decide +kernel] at h
  exact h

theorem run_loadRow {w : World} {g : Nat} {v0 v1 v2 v3 v4 v5 v6 v7 v8 v9 v10 v11 : Value} (h : w.heap[g]? = some (.cells #[v0, v1, v2, v3, v4, v5, v6, v7, v8, v9, v10, v11] 25 (0, 0))) :
    (Instr.loadAt 25 (.pointer (some ⟨g, 0, none⟩))).run Try.prog w = .ok (.agg #[v0, v1, v2, v3, v4, v5, v6, v7, v8, v9, v10, v11]) w := by
  exact run_loadAt_mid w g 0 25 [v0, v1, v2, v3, v4, v5, v6, v7, v8, v9, v10, v11] _ (range_blk (xs := [v0, v1, v2, v3, v4, v5, v6, v7, v8, v9, v10, v11]) h 0 12 _ rfl) Try.underlying25 rfl (by kernel_rfl)

def brL : List Int := [5, 6, 0, 0, 7, 8, 9, 10]

def atL : List Int := [41, 40, 38, 39, 42, 0, 0, 0, 44, 0, 0, 0, 43, 0, 0, 0, 45, 0, 0, 0, 46, 0, 0, 0, 47, 0, 0, 0, 48, 0, 0, 0]

theorem branches_ab (w : World) : Calls Try.prog 21 #[] w fun e w' => ∃ A : Array Value, Hid (A = (brL.map fun v => Value.int .i64 v).toArray) ∧ e = .returned (.agg A) ∧ ∃ o, w' = w.alloc o :=
  (branches_any w).mono fun _ _ ⟨h1, h2⟩ => ⟨_, rfl, h1, h2⟩

theorem atomics_ab (w : World) : Calls Try.prog 38 #[] w fun e w' => ∃ A : Array Value, Hid (A = (atL.map fun v => Value.int .i64 v).toArray) ∧ e = .returned (.agg A) ∧ ∃ o, w' = w.alloc o :=
  (atomics_any w).mono fun _ _ ⟨h1, h2⟩ => ⟨_, rfl, h1, h2⟩

theorem info38 {B : Array Value} (h : Hid (B = (brL.map fun v => Value.int .i64 v).toArray)) : (Try.prog.info? 38).map (·.size) = some B.size ∧ (#[.int .i64 0, .int .i64 0, .int .i64 0, .int .i64 0, .int .i64 0, .int .i64 0, .int .i64 0, .int .i64 0] : Array Value).size = B.size ∧ B.all (·.oneCell') = true := by
  rw [unhide h]
  exact ⟨by kernel_rfl, rfl, by kernel_rfl⟩

theorem info52 {B : Array Value} (h : Hid (B = (atL.map fun v => Value.int .i64 v).toArray)) : (Try.prog.info? 52).map (·.size) = some B.size ∧ (#[.int .i64 0, .int .i64 0, .int .i64 0, .int .i64 0, .int .i64 0, .int .i64 0, .int .i64 0, .int .i64 0, .int .i64 0, .int .i64 0, .int .i64 0, .int .i64 0, .int .i64 0, .int .i64 0, .int .i64 0, .int .i64 0, .int .i64 0, .int .i64 0, .int .i64 0, .int .i64 0, .int .i64 0, .int .i64 0, .int .i64 0, .int .i64 0, .int .i64 0, .int .i64 0, .int .i64 0, .int .i64 0, .int .i64 0, .int .i64 0, .int .i64 0, .int .i64 0] : Array Value).size = B.size ∧ B.all (·.oneCell') = true := by
  rw [unhide h]
  exact ⟨by kernel_rfl, rfl, by kernel_rfl⟩

theorem wpL_store_row {P : Program} {ops : Array Oper} {rest : List Oper} {op : Oper} {a : Act} {w : World} {Q : Exit → Act → World → Prop} (hgd : op.guard = none) (ty : TypeId) (x y : Operand) (ho : op.op = .store ty x y)
    (g : Nat) (cells : Array Value) (hx : a.eval x = .pointer (some ⟨g, 0, none⟩)) (hy : a.eval y = .agg cells) (t : TypeId) (old : Array Value) (hg : w.heap[g]? = some (.cells old t (0, 0)))
    (hi : (P.info? ty).map (·.size) = some cells.size) (hold : old.size = cells.size) (h1 : cells.all (·.oneCell') = true)
    (h : wpList P ops Q rest (a.put op.dst undef) (w.setRow g cells)) : wpList P ops Q (op :: rest) a w :=
  wpList_plain hgd fun _ hK => wp_store_row ty x y ho g cells hx hy t old hg hi hold h1 (hK _ _ h)

theorem cutF {w W0 : World} {c : Code} {Q : Exit → Act → World → Prop} {a : Act} {g5 g6 : Nat} {x y z : Array Value} (hg : GN w W0) (hx : W0.heap[w.heap.size]? = some (.cells x 25 (0, 0))) (h5 : W0.heap[g5]? = some (.cells y 38 (0, 0))) (h6 : W0.heap[g6]? = some (.cells z 52 (0, 0)))
    (k : ∀ W, GN w W → W.heap[w.heap.size]? = some (.cells x 25 (0, 0)) → W.heap[g5]? = some (.cells y 38 (0, 0)) → W.heap[g6]? = some (.cells z 52 (0, 0)) → Code.wp Try.prog c Q a W) : Code.wp Try.prog c Q a W0 := k W0 hg hx h5 h6

theorem form_blocks (w : World) (X Z8 Z32 B A : Array Value) (o1 o2 : Obj) :
    GN w (((((((w.alloc (.cells X 25)).alloc o1).alloc o2).alloc (.cells Z8 38)).alloc (.cells Z32 52)).setRow (w.heap.size + 1 + 1 + 1) B).setRow (w.heap.size + 1 + 1 + 1 + 1) A) ∧
    (((((((w.alloc (.cells X 25)).alloc o1).alloc o2).alloc (.cells Z8 38)).alloc (.cells Z32 52)).setRow (w.heap.size + 1 + 1 + 1) B).setRow (w.heap.size + 1 + 1 + 1 + 1) A).heap[w.heap.size]? = some (.cells X 25 (0, 0)) ∧
    (((((((w.alloc (.cells X 25)).alloc o1).alloc o2).alloc (.cells Z8 38)).alloc (.cells Z32 52)).setRow (w.heap.size + 1 + 1 + 1) B).setRow (w.heap.size + 1 + 1 + 1 + 1) A).heap[w.heap.size + 1 + 1 + 1]? = some (.cells B 38 (0, 0)) ∧
    (((((((w.alloc (.cells X 25)).alloc o1).alloc o2).alloc (.cells Z8 38)).alloc (.cells Z32 52)).setRow (w.heap.size + 1 + 1 + 1) B).setRow (w.heap.size + 1 + 1 + 1 + 1) A).heap[w.heap.size + 1 + 1 + 1 + 1]? = some (.cells A 52 (0, 0)) :=
  ⟨GN.setRow (GN.setRow ((((((GN.refl w).alloc _).alloc _).alloc _).alloc _).alloc _) (by omega) _) (by omega) _,
   row_ne (by omega) (row_ne (by omega) (hp_alloc (hp_alloc (hp_alloc (hp_alloc (hp_last rfl)))))),
   row_ne (by omega) (row_self (hp_alloc (hp_last (by simp)))), row_self (row_ne (by omega) (hp_last (by simp)))⟩

theorem form_start {w : World} {X Z8 Z32 B A : Array Value} {o1 o2 : Obj} {c : Code} {Q : Exit → Act → World → Prop} {a : Act}
    (k : ∀ W, GN w W → W.heap[w.heap.size]? = some (.cells X 25 (0, 0)) → W.heap[w.heap.size + 1 + 1 + 1]? = some (.cells B 38 (0, 0)) → W.heap[w.heap.size + 1 + 1 + 1 + 1]? = some (.cells A 52 (0, 0)) → Code.wp Try.prog c Q a W) :
    Code.wp Try.prog c Q a (((((((w.alloc (.cells X 25)).alloc o1).alloc o2).alloc (.cells Z8 38)).alloc (.cells Z32 52)).setRow (w.heap.size + 1 + 1 + 1) B).setRow (w.heap.size + 1 + 1 + 1 + 1) A) :=
  have h := form_blocks w X Z8 Z32 B A o1 o2
  k _ h.1 h.2.1 h.2.2.1 h.2.2.2

set_option maxRecDepth 100000 in
set_option maxHeartbeats 4000000 in
theorem form_23 (w : World) : Calls Try.prog 33 #[.agg #[.int .i64 23, .int .i64 10, .int .i64 10, .int .i64 11, .int .i64 0, .int .i64 0, .int .i64 0, .int .i64 0, .int .i64 0, .bool false, .bool false, .bool false]] w fun e w' => e = .returned (.tuple #[.int .u32 45417779, .bool true]) ∧ GN w w' := by
  obtain ⟨k, hk⟩ : ∃ z : Int, (23 : Int) = z := ⟨_, rfl⟩
  have n1 : (k == 1) = false := by rw [← hk]; decide
  have n2 : (k == 2) = false := by rw [← hk]; decide
  have n3 : (k == 3) = false := by rw [← hk]; decide
  have n4 : (k == 4) = false := by rw [← hk]; decide
  have n11 : (k == 11) = false := by rw [← hk]; decide
  have n12 : (k == 12) = false := by rw [← hk]; decide
  have n53 : (k == 53) = false := by rw [← hk]; decide
  have n54 : (k == 54) = false := by rw [← hk]; decide
  have n31 : (k == 31) = false := by rw [← hk]; decide
  have n32 : (k == 32) = false := by rw [← hk]; decide
  have n33 : (k == 33) = false := by rw [← hk]; decide
  have n34 : (k == 34) = false := by rw [← hk]; decide
  have n50 : (k == 50) = false := by rw [← hk]; decide
  have n49 : (k == 49) = false := by rw [← hk]; decide
  have n51 : (k == 51) = false := by rw [← hk]; decide
  have n52 : (k == 52) = false := by rw [← hk]; decide
  have n35 : (k == 35) = false := by rw [← hk]; decide
  have n36 : (k == 36) = false := by rw [← hk]; decide
  have n37 : (k == 37) = false := by rw [← hk]; decide
  have hb : placeN brL k = -1 := by rw [← hk]; decide
  have ha : placeN atL k = -1 := by rw [← hk]; decide
  have HS := hide (fun w => sum_23 k hk w)
  rw [hk]
  clear hk
  go_enter Try.func33, Try.ntmps33
  go_upto_region 2 with (first | (go_at_call 21; refine (branches_ab _).mono ?_; rintro _ _ ⟨B, hB, rfl, o_, rfl⟩) | (go_at_call 38; refine (atomics_ab _).mono ?_; rintro _ _ ⟨A, hA, rfl, o_, rfl⟩) | (refine wpL_store_row rfl 38 (.tmp 4) (.tmp 12) rfl _ B rfl rfl 38 #[.int .i64 0, .int .i64 0, .int .i64 0, .int .i64 0, .int .i64 0, .int .i64 0, .int .i64 0, .int .i64 0] ?_ (info38 hB).1 (info38 hB).2.1 (info38 hB).2.2 ?_; · exact hp_alloc (hp_last (by simp))) | (refine wpL_store_row rfl 52 (.tmp 5) (.tmp 13) rfl _ A rfl rfl 52 #[.int .i64 0, .int .i64 0, .int .i64 0, .int .i64 0, .int .i64 0, .int .i64 0, .int .i64 0, .int .i64 0, .int .i64 0, .int .i64 0, .int .i64 0, .int .i64 0, .int .i64 0, .int .i64 0, .int .i64 0, .int .i64 0, .int .i64 0, .int .i64 0, .int .i64 0, .int .i64 0, .int .i64 0, .int .i64 0, .int .i64 0, .int .i64 0, .int .i64 0, .int .i64 0, .int .i64 0, .int .i64 0, .int .i64 0, .int .i64 0, .int .i64 0, .int .i64 0] ?_ (info52 hA).1 (info52 hA).2.1 (info52 hA).2.2 ?_; · exact row_ne (by omega) (hp_last (by simp))))
  with_reducible refine form_start fun W hgW hx h5 h6 => ?_
  generalize hg5 : w.heap.size + 1 + 1 + 1 = g5 at *
  generalize hg6 : g5 + 1 = g6 at *
  clear hg5 hg6
  have W1 := lt_of_heap' hx
  have W2 := lt_of_heap' h5
  have W3 := lt_of_heap' h6
  obtain ⟨⟨p0, q0⟩, ⟨p1, q1⟩, ⟨p2, q2⟩, ⟨p3, q3⟩, ⟨p4, q4⟩, ⟨p5, q5⟩, ⟨p6, q6⟩, ⟨p7, q7⟩, ⟨p8, q8⟩, ⟨p9, q9⟩, ⟨p10, q10⟩, ⟨p11, q11⟩⟩ := c12 hx
  go_upto_region 41 with fail
  have C5 := hide (cells_of (l := brL) (unhide hB) h5)
  go_quiet ((go_at_call 52; exact Calls.quiet_of (place_any brL k g5 8 rfl (by decide) _ (unhide C5))))
  clear C5
  go_upto_region 44 with fail
  clear p0 q0 p1 q1 p2 q2 p3 q3 p4 q4 p5 q5 p6 q6 p7 q7 p8 q8 p9 q9 p10 q10 p11 q11 W1 W2 W3
  refine cutF (w := w) (g5 := g5) (g6 := g6) (GN.drewN hgW _) hx h5 h6 fun W4 hgWn hxn h5n h6n => ?_
  clear hgW hx h5 h6 
  have hgW := hgWn
  have hx := hxn
  have h5 := h5n
  have h6 := h6n
  clear hgWn hxn h5n h6n
  have W1 := lt_of_heap' hx
  have W2 := lt_of_heap' h5
  have W3 := lt_of_heap' h6
  obtain ⟨⟨p0, q0⟩, ⟨p1, q1⟩, ⟨p2, q2⟩, ⟨p3, q3⟩, ⟨p4, q4⟩, ⟨p5, q5⟩, ⟨p6, q6⟩, ⟨p7, q7⟩, ⟨p8, q8⟩, ⟨p9, q9⟩, ⟨p10, q10⟩, ⟨p11, q11⟩⟩ := c12 hx
  have C6 := hide (cells_of (l := atL) (unhide hA) h6)
  go_quiet ((go_at_call 52; exact Calls.quiet_of (place_any atL k g6 32 rfl (by decide) _ (unhide C6))))
  clear C6
  go_wp2_with (go_at_call 53; refine (unhide HS _).mono ?_; rintro _ w53 ⟨rfl, hq⟩)
  have hgn : GN w w53 := GN.trans (by (repeat (first | with_reducible exact GN.refl _ | with_reducible assumption | (with_reducible refine GN.set ?_ ?_ _ _; rotate_left; · first | assumption | (simp; done)) | with_reducible refine GN.alloc ?_ _ | with_reducible refine GN.drewN ?_ _))) hq
  go_ret2
  exact ⟨rfl, hgn⟩

structure WFI (x : Ins) : Prop where
  kind : (Lit.int .i64 x.kind).wf = true
  rd : (Lit.int .i64 x.rd).wf = true
  rs1 : (Lit.int .i64 x.rs1).wf = true
  rs2 : (Lit.int .i64 x.rs2).wf = true
  rs3 : (Lit.int .i64 x.rs3).wf = true
  rm : (Lit.int .i64 x.rm).wf = true
  csr : (Lit.int .i64 x.csr).wf = true
  size : (Lit.int .i64 x.size).wf = true
  imm : (Lit.int .i64 x.imm).wf = true

theorem fits_ins {x : Ins} (h : WFI x) : Fits [.some .i64, .some .i64, .some .i64, .some .i64, .some .i64, .some .i64, .some .i64, .some .i64, .some .i64, .none, .none, .none] [.int .i64 x.kind, .int .i64 x.rd, .int .i64 x.rs1, .int .i64 x.rs2, .int .i64 x.rs3, .int .i64 x.rm, .int .i64 x.csr, .int .i64 x.size, .int .i64 x.imm, .bool x.ui, .bool x.us, .bool x.wd] :=
  ⟨⟨_, rfl, h.kind⟩, ⟨_, rfl, h.rd⟩, ⟨_, rfl, h.rs1⟩, ⟨_, rfl, h.rs2⟩, ⟨_, rfl, h.rs3⟩, ⟨_, rfl, h.rm⟩, ⟨_, rfl, h.csr⟩, ⟨_, rfl, h.size⟩, ⟨_, rfl, h.imm⟩, ⟨_, rfl⟩, ⟨_, rfl⟩, ⟨_, rfl⟩, trivial⟩

theorem flat25 : flat Try.prog 8 25 = .some [.some .i64, .some .i64, .some .i64, .some .i64, .some .i64, .some .i64, .some .i64, .some .i64, .some .i64, .none, .none, .none] := by kernel_rfl

theorem named25 : named Try.prog 8 25 = true := by kernel_rfl

theorem kt25 : Try.prog.keyTypeAt 8 25 = true := by kernel_rfl

theorem formed25 (k rd r1 r2 r3 rm c sz i : Int) (ui us wd : Bool) : (Value.agg #[.int .i64 k, .int .i64 rd, .int .i64 r1, .int .i64 r2, .int .i64 r3, .int .i64 rm, .int .i64 c, .int .i64 sz, .int .i64 i, .bool ui, .bool us, .bool wd]).formed Try.prog 25 = true := by kernel_rfl

def insA (x : Ins) : Array Value := #[.int .i64 x.kind, .int .i64 x.rd, .int .i64 x.rs1, .int .i64 x.rs2, .int .i64 x.rs3, .int .i64 x.rm, .int .i64 x.csr, .int .i64 x.size, .int .i64 x.imm, .bool x.ui, .bool x.us, .bool x.wd]

theorem insA_inj {x y : Ins} (h : insA x = insA y) : x = y := by
  cases x; cases y
  unfold insA at h
  simp only [Array.mk.injEq, List.cons.injEq, Value.int.injEq, Value.bool.injEq, true_and, and_true] at h
  obtain ⟨rfl, rfl, rfl, rfl, rfl, rfl, rfl, rfl, rfl, rfl, rfl, rfl⟩ := h
  rfl

theorem eqg25 {op : BinOp} {x y : Operand} {A B : Array Value} {v : Value} {w : World} (h : (binOp op 25 (.agg A) (.agg B)).run Try.prog w = .ok v w) : (do eqGuard op 25 x y (.agg A) (.agg B); binOp op 25 (.agg A) (.agg B) : Sem Value).run Try.prog w = .ok v w := by
  simp only [Sem.run_bind, run_eqGuard_agg (P := Try.prog) w op 25 x y A B (by kernel_rfl), Result.andThen_ok, h]

theorem neq25 {x y : Ins} (hx : WFI x) (hy : WFI y) (w : World) : (binOp .neq 25 (.agg (insA x)) (.agg (insA y))).run Try.prog w = .ok (.bool (!decide (x = y))) w := by
  by_cases h : x = y
  · subst h
    simp only [decide_true, Bool.not_true]
    exact run_neq_same flat25 named25 kt25 (formed25 ..) (fits_ins hx)
  · simp only [h, decide_false, Bool.not_false]
    exact run_neq_diff flat25 named25 kt25 (formed25 ..) (formed25 ..) (fits_ins hx) (fits_ins hy) (fun e => h (insA_inj e))

theorem eql25 {x y : Ins} (hx : WFI x) (hy : WFI y) (w : World) : (binOp .eql 25 (.agg (insA x)) (.agg (insA y))).run Try.prog w = .ok (.bool (decide (x = y))) w := by
  by_cases h : x = y
  · subst h
    simp only [decide_true]
    exact run_eql_same flat25 named25 kt25 (formed25 ..) (fits_ins hx)
  · simp only [h, decide_false]
    exact run_eql_diff flat25 named25 kt25 (formed25 ..) (formed25 ..) (fits_ins hx) (fits_ins hy) (fun e => h (insA_inj e))

set_option maxRecDepth 100000 in
set_option maxHeartbeats 4000000 in
theorem enc_awake (w : World) : Calls Try.prog 12 #[insV (⟨23, 10, 10, 11, 0, 0, 0, 0, 0, false, false, false⟩ : Ins)] w fun e w' => e = .returned (.tuple #[.int .u32 45417779, .bool true]) ∧ GN w w' := by
  obtain ⟨s, hs0⟩ : ∃ s : Nat, 45417779 = s := ⟨_, rfl⟩
  have hs : s < 4294967296 := by omega
  have hd : decN s = (⟨23, 10, 10, 11, 0, 0, 0, 0, 0, false, false, false⟩ : Ins) := by rw [← hs0]; decide +kernel
  have HB : Hid (∀ w : World, (binOp .neq 25 (.agg (insA (decN s))) (.agg (insA (⟨23, 10, 10, 11, 0, 0, 0, 0, 0, false, false, false⟩ : Ins)))).run Try.prog w = .ok (.bool false) w) := fun w => by
    rw [hd]; exact neq25 ⟨by decide, by decide, by decide, by decide, by decide, by decide, by decide, by decide, by decide⟩ ⟨by decide, by decide, by decide, by decide, by decide, by decide, by decide, by decide, by decide⟩ w
  have HF : Hid (∀ w, Calls Try.prog 33 #[insV (⟨23, 10, 10, 11, 0, 0, 0, 0, 0, false, false, false⟩ : Ins)] w fun e w' => e = .returned (.tuple #[.int .u32 (s : Nat), .bool true]) ∧ GN w w') := hide (fun w => by rw [← hs0]; exact form_23 w)
  rw [show (45417779 : Int) = (s : Int) by omega]
  show Calls Try.prog 12 #[.agg #[.int .i64 23, .int .i64 10, .int .i64 10, .int .i64 11, .int .i64 0, .int .i64 0, .int .i64 0, .int .i64 0, .int .i64 0, .bool false, .bool false, .bool false]] w _
  clear hd hs0
  go_enter Try.func12, Try.ntmps12
  go_upto_region 2 with (go_at_call 33; refine (unhide HF _).mono ?_; rintro _ w33 ⟨rfl, hq⟩)
  have hgn : GN w w33 := GN.trans (by (repeat (first | with_reducible exact GN.refl _ | with_reducible assumption | (with_reducible refine GN.set ?_ ?_ _ _; rotate_left; · first | assumption | (simp; done)) | with_reducible refine GN.alloc ?_ _ | with_reducible refine GN.drewN ?_ _))) hq
  have hx := GN.heap hq (o := .cells #[.int .i64 23, .int .i64 10, .int .i64 10, .int .i64 11, .int .i64 0, .int .i64 0, .int .i64 0, .int .i64 0, .int .i64 0, .bool false, .bool false, .bool false] 25) (b := w.heap.size) (by (repeat (first | with_reducible assumption | with_reducible apply hp_row12 | (with_reducible refine hp_last ?_; · simp) | (with_reducible refine hp_set ?_ ?_; · first | assumption | (simp; done)) | with_reducible refine hp_drewN ?_ | with_reducible refine hp_alloc ?_)))
  clear hq
  have W1 := lt_of_heap' hx
  generalize w33 = W at *
  refine wp_region_F (fun w_ => GN W w_) GN (fun k_ v_ w_ => match k_ with
      | 0 => v_ = .bool true
      | 1 => v_ = .bool false
      | 2 => v_ = .bool false
      | 3 => v_ = .int .u32 ((s : Nat) : Int)
      | 4 => v_ = .agg (insA (decN s))
      | 5 => v_ = .agg (insA (⟨23, 10, 10, 11, 0, 0, 0, 0, 0, false, false, false⟩ : Ins))
      | 6 => v_ = .bool false
      | _ => v_ = .bool false) fol (by kernel_rfl) ?_ ?_ ?_ ?_
  · exact (GN.refl W).drew
  · intro k_ v_ w_ w2_ h1 hg
    split at h1 <;> exact h1
  · intro vals
    show wpG _ _ _ _ _ _ 0 (_ :: _) _
    refine wpG_cons (gval (.bool true) GN.refl fun w_ hJ hd => ?_) ?_
    · exact ⟨by kernel_rfl, by kernel_rfl, rfl⟩
    refine wpG_cons (gval (.bool false) GN.refl fun w_ hJ hd => ?_) ?_
    · have e0 : vals 0 = _ := hd 0 (by decide) (by kernel_rfl)
      rw [e0]
      exact ⟨by kernel_rfl, by kernel_rfl, rfl⟩
    refine wpG_cons (gval (.bool false) GN.refl fun w_ hJ hd => ?_) ?_
    · have e1 : vals 1 = _ := hd 1 (by decide) (by kernel_rfl)
      rw [e1]
      exact ⟨by kernel_rfl, by kernel_rfl, rfl⟩
    refine wpG_cons (gval (.int .u32 ((s : Nat) : Int)) GN.refl fun w_ hJ hd => ?_) ?_
    · have e2 : vals 2 = _ := hd 2 (by decide) (by kernel_rfl)
      rw [e2]
      exact ⟨by kernel_rfl, by kernel_rfl, rfl⟩
    refine wpG_cons (gcall 10 #[.int .u32 ((s : Nat) : Int)] fun w_ hJ hd => ?_) ?_
    · have e3 : vals 3 = _ := hd 3 (by decide) (by kernel_rfl)
      have e2 : vals 2 = _ := hd 2 (by decide) (by kernel_rfl)
      rw [e3, e2]
      exact ⟨by kernel_rfl, by kernel_rfl, (decode_any s hs w_).mono fun e w2 ⟨he, hq⟩ => ⟨_, he, GN.trans hJ hq, hq, rfl⟩⟩
    refine wpG_cons (gop (Instr.loadAt 25 (.pointer (some ⟨w.heap.size, 0, none⟩))) (.agg (insA (⟨23, 10, 10, 11, 0, 0, 0, 0, 0, false, false, false⟩ : Ins))) GN.refl fun w_ hJ hd => ?_) ?_
    · have e2 : vals 2 = _ := hd 2 (by decide) (by kernel_rfl)
      rw [e2]
      exact ⟨by kernel_rfl, by kernel_rfl, run_loadRow (GN.heap hJ hx), rfl⟩
    refine wpG_cons (gop ((do eqGuard .neq 25 (.tmp 15) (.tmp 16) (.agg (insA (decN s))) (.agg (insA (⟨23, 10, 10, 11, 0, 0, 0, 0, 0, false, false, false⟩ : Ins))); binOp .neq 25 (.agg (insA (decN s))) (.agg (insA (⟨23, 10, 10, 11, 0, 0, 0, 0, 0, false, false, false⟩ : Ins))))) (.bool false) GN.refl fun w_ hJ hd => ?_) ?_
    · have e4 : vals 4 = _ := hd 4 (by decide) (by kernel_rfl)
      have e5 : vals 5 = _ := hd 5 (by decide) (by kernel_rfl)
      have e2 : vals 2 = _ := hd 2 (by decide) (by kernel_rfl)
      rw [e4, e5, e2]
      exact ⟨by kernel_rfl, by kernel_rfl, eqg25 (unhide HB w_), rfl⟩
    refine wpG_cons (gval (.bool false) GN.refl fun w_ hJ hd => ?_) wpG_nil
    · have e2 : vals 2 = _ := hd 2 (by decide) (by kernel_rfl)
      have e6 : vals 6 = _ := hd 6 (by decide) (by kernel_rfl)
      rw [e2, e6]
      exact ⟨by kernel_rfl, by kernel_rfl, rfl⟩
  intro vals w_ hJ hf
  have e0 : vals 0 = _ := hf 0 (by decide)
  have e1 : vals 1 = _ := hf 1 (by decide)
  have e2 : vals 2 = _ := hf 2 (by decide)
  have e3 : vals 3 = _ := hf 3 (by decide)
  have e4 : vals 4 = _ := hf 4 (by decide)
  have e5 : vals 5 = _ := hf 5 (by decide)
  have e6 : vals 6 = _ := hf 6 (by decide)
  have e7 : vals 7 = _ := hf 7 (by decide)
  simp only [fillG, Nat.zero_add, Nat.reduceAdd, e0, e1, e2, e3, e4, e5, e6, e7, Act.put, List.setIfInBounds_toArray, List.set_cons_succ, List.set_cons_zero]
  clear e0 e1 e2 e3 e4 e5 e6 e7 hf
  go_wp2
  go_ret2
  exact ⟨rfl, GN.trans hgn hJ⟩

theorem dec_awake0 : decN 4293918867 = (⟨13, 1, 0, 0, 0, 0, 0, 0, -1, true, false, false⟩ : Ins) := by decide +kernel

theorem wf_awake0 : WFI (⟨13, 1, 0, 0, 0, 0, 0, 0, -1, true, false, false⟩ : Ins) := ⟨by decide, by decide, by decide, by decide, by decide, by decide, by decide, by decide, by decide⟩

theorem call_awake0 {W w : World} (hJ : GN W w) : Calls Try.prog 10 #[.int .u32 4293918867] w fun e w' => ∃ u, e = .returned u ∧ GN W w' ∧ GN w w' ∧ u = .agg (insA (⟨13, 1, 0, 0, 0, 0, 0, 0, -1, true, false, false⟩ : Ins)) :=
  (decode_any 4293918867 (by decide) w).mono fun e w' ⟨he, hq⟩ => ⟨_, he, hJ.trans hq, hq, by rw [dec_awake0]; rfl⟩

theorem eq_awake0 {x y : Operand} (w : World) : (do eqGuard .eql 25 x y (.agg (insA (⟨13, 1, 0, 0, 0, 0, 0, 0, -1, true, false, false⟩ : Ins))) (.agg (insA (⟨13, 1, 0, 0, 0, 0, 0, 0, -1, true, false, false⟩ : Ins))); binOp .eql 25 (.agg (insA (⟨13, 1, 0, 0, 0, 0, 0, 0, -1, true, false, false⟩ : Ins))) (.agg (insA (⟨13, 1, 0, 0, 0, 0, 0, 0, -1, true, false, false⟩ : Ins))) : Sem Value).run Try.prog w = .ok (.bool true) w :=
  eqg25 (by rw [eql25 wf_awake0 wf_awake0 w, decide_eq_true rfl])

theorem dec_awake1 : decN 4288671855 = (⟨3, 0, 0, 0, 0, 0, 0, 0, -8, false, false, false⟩ : Ins) := by decide +kernel

theorem wf_awake1 : WFI (⟨3, 0, 0, 0, 0, 0, 0, 0, -8, false, false, false⟩ : Ins) := ⟨by decide, by decide, by decide, by decide, by decide, by decide, by decide, by decide, by decide⟩

theorem call_awake1 {W w : World} (hJ : GN W w) : Calls Try.prog 10 #[.int .u32 4288671855] w fun e w' => ∃ u, e = .returned u ∧ GN W w' ∧ GN w w' ∧ u = .agg (insA (⟨3, 0, 0, 0, 0, 0, 0, 0, -8, false, false, false⟩ : Ins)) :=
  (decode_any 4288671855 (by decide) w).mono fun e w' ⟨he, hq⟩ => ⟨_, he, hJ.trans hq, hq, by rw [dec_awake1]; rfl⟩

theorem eq_awake1 {x y : Operand} (w : World) : (do eqGuard .eql 25 x y (.agg (insA (⟨3, 0, 0, 0, 0, 0, 0, 0, -8, false, false, false⟩ : Ins))) (.agg (insA (⟨3, 0, 0, 0, 0, 0, 0, 0, -8, false, false, false⟩ : Ins))); binOp .eql 25 (.agg (insA (⟨3, 0, 0, 0, 0, 0, 0, 0, -8, false, false, false⟩ : Ins))) (.agg (insA (⟨3, 0, 0, 0, 0, 0, 0, 0, -8, false, false, false⟩ : Ins))) : Sem Value).run Try.prog w = .ok (.bool true) w :=
  eqg25 (by rw [eql25 wf_awake1 wf_awake1 w, decide_eq_true rfl])

theorem dec_awake2 : decN 0 = (⟨0, 0, 0, 0, 0, 0, 0, 0, 0, false, false, false⟩ : Ins) := by decide +kernel

theorem wf_awake2 : WFI (⟨0, 0, 0, 0, 0, 0, 0, 0, 0, false, false, false⟩ : Ins) := ⟨by decide, by decide, by decide, by decide, by decide, by decide, by decide, by decide, by decide⟩

theorem call_awake2 {W w : World} (hJ : GN W w) : Calls Try.prog 10 #[.int .u32 0] w fun e w' => ∃ u, e = .returned u ∧ GN W w' ∧ GN w w' ∧ u = .agg (insA (⟨0, 0, 0, 0, 0, 0, 0, 0, 0, false, false, false⟩ : Ins)) :=
  (decode_any 0 (by decide) w).mono fun e w' ⟨he, hq⟩ => ⟨_, he, hJ.trans hq, hq, by rw [dec_awake2]; rfl⟩

theorem eq_awake2 {x y : Operand} (w : World) : (do eqGuard .eql 25 x y (.agg (insA (⟨0, 0, 0, 0, 0, 0, 0, 0, 0, false, false, false⟩ : Ins))) (.agg (insA (⟨0, 0, 0, 0, 0, 0, 0, 0, 0, false, false, false⟩ : Ins))); binOp .eql 25 (.agg (insA (⟨0, 0, 0, 0, 0, 0, 0, 0, 0, false, false, false⟩ : Ins))) (.agg (insA (⟨0, 0, 0, 0, 0, 0, 0, 0, 0, false, false, false⟩ : Ins))) : Sem Value).run Try.prog w = .ok (.bool true) w :=
  eqg25 (by rw [eql25 wf_awake2 wf_awake2 w, decide_eq_true rfl])

theorem dec_awake3 : decN 3256186195 = (⟨73, 10, 10, 0, 0, 7, 0, 8, 0, false, true, true⟩ : Ins) := by decide +kernel

theorem wf_awake3 : WFI (⟨73, 10, 10, 0, 0, 7, 0, 8, 0, false, true, true⟩ : Ins) := ⟨by decide, by decide, by decide, by decide, by decide, by decide, by decide, by decide, by decide⟩

theorem call_awake3 {W w : World} (hJ : GN W w) : Calls Try.prog 10 #[.int .u32 3256186195] w fun e w' => ∃ u, e = .returned u ∧ GN W w' ∧ GN w w' ∧ u = .agg (insA (⟨73, 10, 10, 0, 0, 7, 0, 8, 0, false, true, true⟩ : Ins)) :=
  (decode_any 3256186195 (by decide) w).mono fun e w' ⟨he, hq⟩ => ⟨_, he, hJ.trans hq, hq, by rw [dec_awake3]; rfl⟩

theorem eq_awake3 {x y : Operand} (w : World) : (do eqGuard .eql 25 x y (.agg (insA (⟨73, 10, 10, 0, 0, 7, 0, 8, 0, false, true, true⟩ : Ins))) (.agg (insA (⟨73, 10, 10, 0, 0, 7, 0, 8, 0, false, true, true⟩ : Ins))); binOp .eql 25 (.agg (insA (⟨73, 10, 10, 0, 0, 7, 0, 8, 0, false, true, true⟩ : Ins))) (.agg (insA (⟨73, 10, 10, 0, 0, 7, 0, 8, 0, false, true, true⟩ : Ins))) : Sem Value).run Try.prog w = .ok (.bool true) w :=
  eqg25 (by rw [eql25 wf_awake3 wf_awake3 w, decide_eq_true rfl])

set_option maxRecDepth 100000 in
set_option maxHeartbeats 4000000 in
theorem awake_any (w : World) : Calls Try.prog 9 #[] w fun e w' => e = .returned (.bool true) ∧ GN w w' := by
  go_enter Try.func9, Try.ntmps9
  go_upto_region 2 with (go_at_call 12; refine (enc_awake _).mono ?_; rintro _ w12 ⟨rfl, hq⟩)
  refine wp_list_O (fun w_ => GN w w_) GN (fun k_ v_ w_ => match k_ with
      | 0 => v_ = .agg (insA (⟨13, 1, 0, 0, 0, 0, 0, 0, -1, true, false, false⟩ : Ins))
      | 1 => v_ = .agg (insA (⟨13, 1, 0, 0, 0, 0, 0, 0, -1, true, false, false⟩ : Ins))
      | 2 => v_ = .bool true
      | 3 => v_ = .bool true
      | 4 => v_ = .agg (insA (⟨3, 0, 0, 0, 0, 0, 0, 0, -8, false, false, false⟩ : Ins))
      | 5 => v_ = .agg (insA (⟨3, 0, 0, 0, 0, 0, 0, 0, -8, false, false, false⟩ : Ins))
      | 6 => v_ = .bool true
      | 7 => v_ = .bool true
      | 8 => v_ = .bool true
      | 9 => v_ = .agg (insA (⟨0, 0, 0, 0, 0, 0, 0, 0, 0, false, false, false⟩ : Ins))
      | 10 => v_ = .agg (insA (⟨0, 0, 0, 0, 0, 0, 0, 0, 0, false, false, false⟩ : Ins))
      | 11 => v_ = .bool true
      | 12 => v_ = .bool true
      | 13 => v_ = .bool true
      | 14 => v_ = .agg (insA (⟨73, 10, 10, 0, 0, 7, 0, 8, 0, false, true, true⟩ : Ins))
      | 15 => v_ = .agg (insA (⟨73, 10, 10, 0, 0, 7, 0, 8, 0, false, true, true⟩ : Ins))
      | 16 => v_ = .bool true
      | 17 => v_ = .bool true
      | 18 => v_ = .bool true
      | 19 => v_ = .bool true
      | 20 => v_ = .bool true
      | 21 => v_ = .bool true
      | 22 => v_ = .int .u32 45417779
      | 23 => v_ = .bool true
      | 24 => v_ = .bool true
      | _ => v_ = .bool true) ?_ ?_ GN.refl ?_ ?_
  · exact hq
  · intro k_ v_ w_ w2_ h1 hg
    split at h1 <;> exact h1
  · intro vals
    show wpO _ _ _ _ _ _ 0 (_ :: _) _
    refine wpO_cons (ocall 10 #[.int .u32 4293918867] fun w_ hJ hd => ?_) ?_
    · exact ⟨by kernel_rfl, by kernel_rfl, call_awake0 hJ⟩
    refine wpO_cons (oval (.agg (insA (⟨13, 1, 0, 0, 0, 0, 0, 0, -1, true, false, false⟩ : Ins))) GN.refl fun w_ hJ hd => ?_) ?_
    · exact ⟨by kernel_rfl, by kernel_rfl, rfl⟩
    refine wpO_cons (oop ((do eqGuard .eql 25 (.tmp 8) (.tmp 9) (.agg (insA (⟨13, 1, 0, 0, 0, 0, 0, 0, -1, true, false, false⟩ : Ins))) (.agg (insA (⟨13, 1, 0, 0, 0, 0, 0, 0, -1, true, false, false⟩ : Ins))); binOp .eql 25 (.agg (insA (⟨13, 1, 0, 0, 0, 0, 0, 0, -1, true, false, false⟩ : Ins))) (.agg (insA (⟨13, 1, 0, 0, 0, 0, 0, 0, -1, true, false, false⟩ : Ins))))) (.bool true) GN.refl fun w_ hJ hd => ?_) ?_
    · have e0 : vals 0 = _ := hd 0 (by decide)
      have e1 : vals 1 = _ := hd 1 (by decide)
      rw [e0, e1]
      exact ⟨by kernel_rfl, by kernel_rfl, eq_awake0 w_, rfl⟩
    refine wpO_cons (oval (.bool true) GN.refl fun w_ hJ hd => ?_) ?_
    · have e2 : vals 2 = _ := hd 2 (by decide)
      rw [e2]
      exact ⟨by kernel_rfl, by kernel_rfl, rfl⟩
    refine wpO_cons (ocall 10 #[.int .u32 4288671855] fun w_ hJ hd => ?_) ?_
    · have e3 : vals 3 = _ := hd 3 (by decide)
      rw [e3]
      exact ⟨by kernel_rfl, by kernel_rfl, call_awake1 hJ⟩
    refine wpO_cons (oval (.agg (insA (⟨3, 0, 0, 0, 0, 0, 0, 0, -8, false, false, false⟩ : Ins))) GN.refl fun w_ hJ hd => ?_) ?_
    · have e3 : vals 3 = _ := hd 3 (by decide)
      rw [e3]
      exact ⟨by kernel_rfl, by kernel_rfl, rfl⟩
    refine wpO_cons (oop ((do eqGuard .eql 25 (.tmp 12) (.tmp 13) (.agg (insA (⟨3, 0, 0, 0, 0, 0, 0, 0, -8, false, false, false⟩ : Ins))) (.agg (insA (⟨3, 0, 0, 0, 0, 0, 0, 0, -8, false, false, false⟩ : Ins))); binOp .eql 25 (.agg (insA (⟨3, 0, 0, 0, 0, 0, 0, 0, -8, false, false, false⟩ : Ins))) (.agg (insA (⟨3, 0, 0, 0, 0, 0, 0, 0, -8, false, false, false⟩ : Ins))))) (.bool true) GN.refl fun w_ hJ hd => ?_) ?_
    · have e3 : vals 3 = _ := hd 3 (by decide)
      have e4 : vals 4 = _ := hd 4 (by decide)
      have e5 : vals 5 = _ := hd 5 (by decide)
      rw [e3, e4, e5]
      exact ⟨by kernel_rfl, by kernel_rfl, eq_awake1 w_, rfl⟩
    refine wpO_cons (oval (.bool true) GN.refl fun w_ hJ hd => ?_) ?_
    · have e3 : vals 3 = _ := hd 3 (by decide)
      have e6 : vals 6 = _ := hd 6 (by decide)
      rw [e3, e6]
      exact ⟨by kernel_rfl, by kernel_rfl, rfl⟩
    refine wpO_cons (oval (.bool true) GN.refl fun w_ hJ hd => ?_) ?_
    · have e7 : vals 7 = _ := hd 7 (by decide)
      rw [e7]
      exact ⟨by kernel_rfl, by kernel_rfl, rfl⟩
    refine wpO_cons (ocall 10 #[.int .u32 0] fun w_ hJ hd => ?_) ?_
    · have e8 : vals 8 = _ := hd 8 (by decide)
      rw [e8]
      exact ⟨by kernel_rfl, by kernel_rfl, call_awake2 hJ⟩
    refine wpO_cons (oval (.agg (insA (⟨0, 0, 0, 0, 0, 0, 0, 0, 0, false, false, false⟩ : Ins))) GN.refl fun w_ hJ hd => ?_) ?_
    · have e8 : vals 8 = _ := hd 8 (by decide)
      rw [e8]
      exact ⟨by kernel_rfl, by kernel_rfl, rfl⟩
    refine wpO_cons (oop ((do eqGuard .eql 25 (.tmp 17) (.tmp 18) (.agg (insA (⟨0, 0, 0, 0, 0, 0, 0, 0, 0, false, false, false⟩ : Ins))) (.agg (insA (⟨0, 0, 0, 0, 0, 0, 0, 0, 0, false, false, false⟩ : Ins))); binOp .eql 25 (.agg (insA (⟨0, 0, 0, 0, 0, 0, 0, 0, 0, false, false, false⟩ : Ins))) (.agg (insA (⟨0, 0, 0, 0, 0, 0, 0, 0, 0, false, false, false⟩ : Ins))))) (.bool true) GN.refl fun w_ hJ hd => ?_) ?_
    · have e8 : vals 8 = _ := hd 8 (by decide)
      have e9 : vals 9 = _ := hd 9 (by decide)
      have e10 : vals 10 = _ := hd 10 (by decide)
      rw [e8, e9, e10]
      exact ⟨by kernel_rfl, by kernel_rfl, eq_awake2 w_, rfl⟩
    refine wpO_cons (oval (.bool true) GN.refl fun w_ hJ hd => ?_) ?_
    · have e8 : vals 8 = _ := hd 8 (by decide)
      have e11 : vals 11 = _ := hd 11 (by decide)
      rw [e8, e11]
      exact ⟨by kernel_rfl, by kernel_rfl, rfl⟩
    refine wpO_cons (oval (.bool true) GN.refl fun w_ hJ hd => ?_) ?_
    · have e12 : vals 12 = _ := hd 12 (by decide)
      rw [e12]
      exact ⟨by kernel_rfl, by kernel_rfl, rfl⟩
    refine wpO_cons (ocall 10 #[.int .u32 3256186195] fun w_ hJ hd => ?_) ?_
    · have e13 : vals 13 = _ := hd 13 (by decide)
      rw [e13]
      exact ⟨by kernel_rfl, by kernel_rfl, call_awake3 hJ⟩
    refine wpO_cons (oval (.agg (insA (⟨73, 10, 10, 0, 0, 7, 0, 8, 0, false, true, true⟩ : Ins))) GN.refl fun w_ hJ hd => ?_) ?_
    · have e13 : vals 13 = _ := hd 13 (by decide)
      rw [e13]
      exact ⟨by kernel_rfl, by kernel_rfl, rfl⟩
    refine wpO_cons (oop ((do eqGuard .eql 25 (.tmp 22) (.tmp 23) (.agg (insA (⟨73, 10, 10, 0, 0, 7, 0, 8, 0, false, true, true⟩ : Ins))) (.agg (insA (⟨73, 10, 10, 0, 0, 7, 0, 8, 0, false, true, true⟩ : Ins))); binOp .eql 25 (.agg (insA (⟨73, 10, 10, 0, 0, 7, 0, 8, 0, false, true, true⟩ : Ins))) (.agg (insA (⟨73, 10, 10, 0, 0, 7, 0, 8, 0, false, true, true⟩ : Ins))))) (.bool true) GN.refl fun w_ hJ hd => ?_) ?_
    · have e13 : vals 13 = _ := hd 13 (by decide)
      have e14 : vals 14 = _ := hd 14 (by decide)
      have e15 : vals 15 = _ := hd 15 (by decide)
      rw [e13, e14, e15]
      exact ⟨by kernel_rfl, by kernel_rfl, eq_awake3 w_, rfl⟩
    refine wpO_cons (oval (.bool true) GN.refl fun w_ hJ hd => ?_) ?_
    · have e13 : vals 13 = _ := hd 13 (by decide)
      have e16 : vals 16 = _ := hd 16 (by decide)
      rw [e13, e16]
      exact ⟨by kernel_rfl, by kernel_rfl, rfl⟩
    refine wpO_cons (oval (.bool true) GN.refl fun w_ hJ hd => ?_) ?_
    · have e17 : vals 17 = _ := hd 17 (by decide)
      rw [e17]
      exact ⟨by kernel_rfl, by kernel_rfl, rfl⟩
    refine wpO_cons (oval (.bool true) GN.refl fun w_ hJ hd => ?_) ?_
    · have e18 : vals 18 = _ := hd 18 (by decide)
      rw [e18]
      exact ⟨by kernel_rfl, by kernel_rfl, rfl⟩
    refine wpO_cons (oval (.bool true) GN.refl fun w_ hJ hd => ?_) ?_
    · have e18 : vals 18 = _ := hd 18 (by decide)
      have e19 : vals 19 = _ := hd 19 (by decide)
      rw [e18, e19]
      exact ⟨by kernel_rfl, by kernel_rfl, rfl⟩
    refine wpO_cons (oval (.bool true) GN.refl fun w_ hJ hd => ?_) ?_
    · have e20 : vals 20 = _ := hd 20 (by decide)
      rw [e20]
      exact ⟨by kernel_rfl, by kernel_rfl, rfl⟩
    refine wpO_cons (oval (.int .u32 45417779) GN.refl fun w_ hJ hd => ?_) ?_
    · have e21 : vals 21 = _ := hd 21 (by decide)
      rw [e21]
      exact ⟨by kernel_rfl, by kernel_rfl, rfl⟩
    refine wpO_cons (oval (.bool true) GN.refl fun w_ hJ hd => ?_) ?_
    · have e21 : vals 21 = _ := hd 21 (by decide)
      have e22 : vals 22 = _ := hd 22 (by decide)
      rw [e21, e22]
      exact ⟨by kernel_rfl, by kernel_rfl, rfl⟩
    refine wpO_cons (oval (.bool true) GN.refl fun w_ hJ hd => ?_) ?_
    · have e21 : vals 21 = _ := hd 21 (by decide)
      have e23 : vals 23 = _ := hd 23 (by decide)
      rw [e21, e23]
      exact ⟨by kernel_rfl, by kernel_rfl, rfl⟩
    refine wpO_cons (oval (.bool true) GN.refl fun w_ hJ hd => ?_) wpO_nil
    · have e24 : vals 24 = _ := hd 24 (by decide)
      rw [e24]
      exact ⟨by kernel_rfl, by kernel_rfl, rfl⟩
  intro vals w_ hJ hf
  have e0 : vals 0 = _ := hf 0 (by decide)
  have e1 : vals 1 = _ := hf 1 (by decide)
  have e2 : vals 2 = _ := hf 2 (by decide)
  have e3 : vals 3 = _ := hf 3 (by decide)
  have e4 : vals 4 = _ := hf 4 (by decide)
  have e5 : vals 5 = _ := hf 5 (by decide)
  have e6 : vals 6 = _ := hf 6 (by decide)
  have e7 : vals 7 = _ := hf 7 (by decide)
  have e8 : vals 8 = _ := hf 8 (by decide)
  have e9 : vals 9 = _ := hf 9 (by decide)
  have e10 : vals 10 = _ := hf 10 (by decide)
  have e11 : vals 11 = _ := hf 11 (by decide)
  have e12 : vals 12 = _ := hf 12 (by decide)
  have e13 : vals 13 = _ := hf 13 (by decide)
  have e14 : vals 14 = _ := hf 14 (by decide)
  have e15 : vals 15 = _ := hf 15 (by decide)
  have e16 : vals 16 = _ := hf 16 (by decide)
  have e17 : vals 17 = _ := hf 17 (by decide)
  have e18 : vals 18 = _ := hf 18 (by decide)
  have e19 : vals 19 = _ := hf 19 (by decide)
  have e20 : vals 20 = _ := hf 20 (by decide)
  have e21 : vals 21 = _ := hf 21 (by decide)
  have e22 : vals 22 = _ := hf 22 (by decide)
  have e23 : vals 23 = _ := hf 23 (by decide)
  have e24 : vals 24 = _ := hf 24 (by decide)
  have e25 : vals 25 = _ := hf 25 (by decide)
  simp only [fillG, Nat.zero_add, Nat.reduceAdd, e0, e1, e2, e3, e4, e5, e6, e7, e8, e9, e10, e11, e12, e13, e14, e15, e16, e17, e18, e19, e20, e21, e22, e23, e24, e25, Act.put, List.setIfInBounds_toArray, List.set_cons_succ, List.set_cons_zero]
  clear e0 e1 e2 e3 e4 e5 e6 e7 e8 e9 e10 e11 e12 e13 e14 e15 e16 e17 e18 e19 e20 e21 e22 e23 e24 e25 hf
  go_wp2
  go_ret
  exact ⟨rfl, hJ⟩
end Go.Proofs.Ytopbdiekfhikmaa
