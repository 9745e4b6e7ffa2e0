/- Layer 3: put, and what is made of it. / Layer 3: logarithms, places in lists. -/
import Derived.Test.YtopbdiekfhikmaaD6
namespace Go.Proofs.Ytopbdiekfhikmaa
open Go.RowKit
def or32 (a b : Nat) : Nat := (a ||| b) % 4294967296
theorem or32_cast (a b : Nat) : ((or32 a b : Nat) : Int) = bits .or .u32 (a : Int) (b : Int) := by
  show _ = ((BitVec.ofInt 32 (a : Int) ||| BitVec.ofInt 32 (b : Int)).toNat : Int) % 2 ^ 32
  unfold or32
  rw [BitVec.toNat_or, bv_ofInt, bv_ofInt, ← Nat.or_mod_two_pow]
  omega
def pt (n : Int) (w : Nat) : Nat := (n % 2 ^ w).toNat
def putN (n : Int) (s w : Nat) : Nat := pt n w * 2 ^ s % 4294967296
theorem pt_lt (n : Int) (w : Nat) : pt n w < 2 ^ w := by
  unfold pt
  have h1 : (0 : Int) < 2 ^ w := Int.pow_pos (by decide)
  have h2 := Int.emod_lt_of_pos n h1
  have h3 := Int.emod_nonneg n (show (2 : Int) ^ w ≠ 0 by omega)
  have h4 : ((2 ^ w : Nat) : Int) = (2 : Int) ^ w := by simp
  omega
set_option maxRecDepth 100000 in
theorem put_any (n : Int) (s w : Nat) (hw : w < 31) (hs : s < 32) (W : World) : Calls Try.prog 46 #[.int .i64 n, .int .i64 s, .int .i64 w] W fun e w' => e = .returned (.int .u32 (putN n s w : Nat)) ∧ ∃ m, w' = W.drewN m := by
  have e1 := and64 n w (by omega)
  have h1 : (0 : Int) < 2 ^ w := Int.pow_pos (by decide)
  have h3 := Int.emod_nonneg n (show (2 : Int) ^ w ≠ 0 by omega)
  have h4 : ((2 ^ w : Nat) : Int) = (2 : Int) ^ w := by simp
  have hb1 : (2 : Nat) ^ w ≤ 2 ^ 30 := Nat.pow_le_pow_right (n := 2) (by omega) (by omega)
  have hb2 : (1 : Nat) ≤ 2 ^ w := Nat.one_le_two_pow
  have h5 := pt_lt n w
  have h6 : n % 2 ^ w = (pt n w : Nat) := by unfold pt; omega
  have H6 := hide h6
  clear h3 h6
  have k1 : (0 : Int) ≤ w := by omega
  have k2 : (0 : Int) ≤ s := by omega
  have k3 : (w : Int).toNat = w := by omega
  have k4 : (s : Int).toNat = s := by omega
  go_enter Try.func46, Try.ntmps46
  go_wp2
  go_ret
  refine ⟨congrArg (fun x => Ending.returned (Value.int .u32 x)) ?_, dr0 _⟩
  unfold putN
  rw [unhide H6, Int.natCast_emod, Int.natCast_mul, Int.natCast_pow]
  rfl
theorem mark_any (u : Bool) (W : World) : Calls Try.prog 49 #[.bool u] W fun e w' => e = .returned (.int .u32 (u.toNat : Nat)) ∧ ∃ m, w' = W.drewN m := by
  cases u
  · go_enter Try.func49, Try.ntmps49
    go_wp2
    go_ret
    exact ⟨rfl, dr0 _⟩
  · go_enter Try.func49, Try.ntmps49
    go_wp2
    go_ret
    exact ⟨rfl, dr0 _⟩
def rN (rd r1 r2 : Int) : Nat := or32 (or32 (putN rd 7 5) (putN r1 15 5)) (putN r2 20 5)
def iN (rd r1 i : Int) : Nat := or32 (or32 (putN rd 7 5) (putN r1 15 5)) (putN i 20 12)
def sN (r1 r2 i : Int) : Nat := or32 (or32 (or32 (putN r1 15 5) (putN r2 20 5)) (putN i 7 5)) (putN (i / 32) 25 7)
set_option maxRecDepth 100000 in
set_option maxHeartbeats 2000000 in
theorem r_any (k rd r1 r2 r3 rm c sz i : Int) (hi : (Lit.int .i64 i).wf = true) (u us wd : Bool) (W : World) : Calls Try.prog 51 #[.agg #[.int .i64 k, .int .i64 rd, .int .i64 r1, .int .i64 r2, .int .i64 r3, .int .i64 rm, .int .i64 c, .int .i64 sz, .int .i64 i, .bool u, .bool us, .bool wd]] W fun e w' => e = .returned (.int .u32 (rN rd r1 r2 : Nat)) ∧ GN W w' := by
  obtain ⟨z, hz⟩ : ∃ z : Int, z = ((rN rd r1 r2 : Nat) : Int) := ⟨_, rfl⟩
  rw [← hz]
  unfold rN at hz
  simp only [or32_cast] at hz
  have Hz := hide hz
  clear hz
  have hi2 := i64' hi
  have hi3 : -9223372036854775808 ≤ i / 32 ∧ i / 32 < 9223372036854775808 := by omega
  go_enter Try.func51, Try.ntmps51
  go_upto_region 1 with fail
  go_quiet ((go_at_call 46; exact Calls.quiet_of (put_any _ _ _ (by decide) (by decide) _)))
  go_wp2
  go_ret
  exact ⟨congrArg (fun x => Ending.returned (Value.int .u32 x)) (unhide Hz).symm, ((GN.refl W).alloc _).drewN _⟩
set_option maxRecDepth 100000 in
set_option maxHeartbeats 2000000 in
theorem i_any (k rd r1 r2 r3 rm c sz i : Int) (hi : (Lit.int .i64 i).wf = true) (u us wd : Bool) (W : World) : Calls Try.prog 47 #[.agg #[.int .i64 k, .int .i64 rd, .int .i64 r1, .int .i64 r2, .int .i64 r3, .int .i64 rm, .int .i64 c, .int .i64 sz, .int .i64 i, .bool u, .bool us, .bool wd]] W fun e w' => e = .returned (.int .u32 (iN rd r1 i : Nat)) ∧ GN W w' := by
  obtain ⟨z, hz⟩ : ∃ z : Int, z = ((iN rd r1 i : Nat) : Int) := ⟨_, rfl⟩
  rw [← hz]
  unfold iN at hz
  simp only [or32_cast] at hz
  have Hz := hide hz
  clear hz
  have hi2 := i64' hi
  have hi3 : -9223372036854775808 ≤ i / 32 ∧ i / 32 < 9223372036854775808 := by omega
  go_enter Try.func47, Try.ntmps47
  go_upto_region 1 with fail
  go_quiet ((go_at_call 46; exact Calls.quiet_of (put_any _ _ _ (by decide) (by decide) _)))
  go_wp2
  go_ret
  exact ⟨congrArg (fun x => Ending.returned (Value.int .u32 x)) (unhide Hz).symm, ((GN.refl W).alloc _).drewN _⟩
set_option maxRecDepth 100000 in
set_option maxHeartbeats 2000000 in
theorem s_any (k rd r1 r2 r3 rm c sz i : Int) (hi : (Lit.int .i64 i).wf = true) (u us wd : Bool) (W : World) : Calls Try.prog 50 #[.agg #[.int .i64 k, .int .i64 rd, .int .i64 r1, .int .i64 r2, .int .i64 r3, .int .i64 rm, .int .i64 c, .int .i64 sz, .int .i64 i, .bool u, .bool us, .bool wd]] W fun e w' => e = .returned (.int .u32 (sN r1 r2 i : Nat)) ∧ GN W w' := by
  obtain ⟨z, hz⟩ : ∃ z : Int, z = ((sN r1 r2 i : Nat) : Int) := ⟨_, rfl⟩
  rw [← hz]
  unfold sN at hz
  simp only [or32_cast] at hz
  have Hz := hide hz
  clear hz
  have hi2 := i64' hi
  have hi3 : -9223372036854775808 ≤ i / 32 ∧ i / 32 < 9223372036854775808 := by omega
  go_enter Try.func50, Try.ntmps50
  go_upto_region 1 with fail
  go_quiet ((go_at_call 46; exact Calls.quiet_of (put_any _ _ _ (by decide) (by decide) _)))
  go_wp2
  go_ret
  exact ⟨congrArg (fun x => Ending.returned (Value.int .u32 x)) (unhide Hz).symm, ((GN.refl W).alloc _).drewN _⟩
end Go.Proofs.Ytopbdiekfhikmaa
namespace Go.Proofs.Ytopbdiekfhikmaa
open Go.RowKit
def logN (z : Int) : Nat := z.toNat.log2
theorem logN_one {z : Int} (h : z ≤ 1) : logN z = 0 := by
  unfold logN
  have : z.toNat = 0 ∨ z.toNat = 1 := by omega
  rcases this with h | h <;> rw [h] <;> rfl
theorem logN_half {z : Int} (h : 1 < z) : logN (z / 2) + 1 = logN z := by
  unfold logN
  rw [Nat.log2_def z.toNat, if_pos (by omega), show (z / 2).toNat = z.toNat / 2 by omega]
theorem logN_lt {z : Int} (h : z < 9223372036854775808) : logN z < 63 := by
  unfold logN
  by_cases h0 : z.toNat = 0
  · rw [h0]; decide
  · exact (Nat.log2_lt h0).2 (by omega)
set_option maxRecDepth 100000 in
theorem log_any (z : Int) (h1 : -9223372036854775808 ≤ z) (h2 : z < 9223372036854775808) (W : World) : Calls Try.prog 48 #[.int .i64 z] W fun e w' => e = .returned (.int .u32 (logN z : Nat)) ∧ ∃ m, w' = W.drewN m := by
  obtain ⟨L, hL⟩ : ∃ L, logN z = L := ⟨_, rfl⟩
  have hL63 := logN_lt h2
  rw [hL] at hL63 ⊢
  go_enter Try.func48, Try.ntmps48
  go_wp2
  go_loopw [0, 3] (fun z0 n3 wr => ∃ (y : Int) (n : Nat), z0 = .int .i64 y ∧ n3 = .int .u32 (n : Int) ∧ -9223372036854775808 ≤ y ∧ y < 9223372036854775808 ∧ n + logN y = L ∧ wr = W) (fun z0 _ _ => (intOf z0).toNat)
  case atStart => exact ⟨z, 0, rfl, rfl, h1, h2, by omega, rfl⟩
  case round =>
    obtain ⟨y, n, rfl, rfl, y1, y2, hn, rfl⟩ := hrel
    by_cases hy : 1 < y
    · have hh := logN_half hy
      have Hh := hide hh
      clear hh
      have q0 : 0 ≤ y := by omega
      have q1 : n < 63 := by omega
      go_wp2
      refine ⟨⟨y / 2, n + 1, rfl, rfl, by omega, by omega, ?_, trivial⟩, by simp only [intOf]; omega⟩
      have := unhide Hh
      omega
    · have hy0 := logN_one (show y ≤ 1 by omega)
      obtain rfl : L = n := by omega
      go_wp2
      go_ret
      exact ⟨rfl, dr0 _⟩
def plF : List Int → Int → Nat → Int
  | [], _, _ => -1
  | v :: r, k, i => if v = k ∧ v ≠ 0 then i else plF r k (i + 1)
def placeN (l : List Int) (k : Int) : Int := plF l k 0
set_option maxRecDepth 100000 in
theorem place_any (l : List Int) (k : Int) (g n : Nat) (hn : l.length = n) (hn2 : n < 100) (W : World) (hc : ∀ j v, l[j]? = some v → W.cell? ⟨g, j, none⟩ = some (.int .i64 v)) : Calls Try.prog 52 #[.slice (some ⟨g, 0, none⟩) n n, .int .i64 k] W fun e w' => e = .returned (.int .i64 (placeN l k)) ∧ ∃ m, w' = W.drewN m := by
  go_enter Try.func52, Try.ntmps52
  go_wp2
  go_loopw [9] (fun i9 wr => ∃ j : Nat, i9 = .int .i64 j ∧ j ≤ n ∧ placeN l k = plF (l.drop j) k j ∧ wr = W) (fun i9 _ => n - (intOf i9).toNat)
  case atStart => exact ⟨0, rfl, Nat.zero_le _, rfl, rfl⟩
  case round =>
    obtain ⟨j, rfl, hj, hp, rfl⟩ := hrel
    have Hp := hide hp
    clear hp
    by_cases hjn : j < n
    · obtain ⟨v, hv, hd⟩ : ∃ v, l[j]? = some v ∧ l.drop j = v :: l.drop (j + 1) := ⟨l[j]'(by omega), List.getElem?_eq_getElem _, List.drop_eq_getElem_cons _⟩
      have cv := hc j v hv
      have hd := hide hd
      have Hv := hide hv
      clear hv hc
      have k1 : (j : Int) < n := by omega
      have k3 : j < 100 := by omega
      by_cases q : v = k ∧ v ≠ 0
      · have q1 := eq_t q.1
        have q2 := ne_t q.2
        have hq := hide q
        clear q
        go_wp2
        go_ret
        refine ⟨congrArg (fun x => Ending.returned (Value.int .i64 x)) ?_, dr0 _⟩
        rw [unhide Hp, unhide hd, plF, if_pos (unhide hq)]
      · have hq := hide q
        have qc : v ≠ k ∨ v = 0 := by omega
        clear q
        rcases qc with q1 | q1
        · have q2 := ne_b q1
          go_wp2
          refine ⟨⟨j + 1, rfl, hjn, ?_, trivial⟩, by simp only [intOf]; omega⟩
          rw [unhide Hp, unhide hd, plF, if_neg (unhide hq)]
        · subst q1
          go_wp2
          all_goals (refine ⟨⟨j + 1, rfl, hjn, ?_, trivial⟩, by simp only [intOf]; omega⟩)
          all_goals (rw [unhide Hp, unhide hd, plF, if_neg (unhide hq)])
    · obtain rfl : n = j := by omega
      have k1 : ¬ ((n : Int) < n) := by omega
      go_wp2
      go_ret
      refine ⟨?_, dr0 _⟩
      rw [unhide Hp, List.drop_eq_nil_of_le (by omega)]
      rfl
end Go.Proofs.Ytopbdiekfhikmaa
