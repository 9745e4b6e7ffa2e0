/- Layer 3: logarithms, places in lists. -/
import Derived.Test.YtopbdiekfhikmaaE1
namespace Go.Proofs.Ytopbdiekfhikmaa
open Go.RowKit
def logN (z : Int) : Nat := z.toNat.log2
theorem logN_one {z : Int} (h : z ≤ 1) : logN z = 0 := by
  unfold logN
  have : z.toNat = 0 ∨ z.toNat = 1 := by omega
  rcases this with h | h <;> rw [h] <;> rfl
theorem logN_half {z : Int} (h : 1 < z) : logN (z / 2) + 1 = logN z := by
  unfold logN
  rw [Nat.log2_def z.toNat, if_pos (by omega), show (z / 2).toNat = z.toNat / 2 by omega]
theorem logN_lt {z : Int} (h : z < 9223372036854775808) : logN z < 63 := by
  unfold logN
  by_cases h0 : z.toNat = 0
  · rw [h0]; decide
  · exact (Nat.log2_lt h0).2 (by omega)
set_option maxRecDepth 100000 in
theorem log_any (z : Int) (h1 : -9223372036854775808 ≤ z) (h2 : z < 9223372036854775808) (W : World) : Calls Try.prog 48 #[.int .i64 z] W fun e w' => e = .returned (.int .u32 (logN z : Nat)) ∧ ∃ m, w' = W.drewN m := by
  obtain ⟨L, hL⟩ : ∃ L, logN z = L := ⟨_, rfl⟩
  have hL63 := logN_lt h2
  rw [hL] at hL63 ⊢
  go_enter Try.func48, Try.ntmps48
  go_wp2
  go_loopw [0, 3] (fun z0 n3 wr => ∃ (y : Int) (n : Nat), z0 = .int .i64 y ∧ n3 = .int .u32 (n : Int) ∧ -9223372036854775808 ≤ y ∧ y < 9223372036854775808 ∧ n + logN y = L ∧ wr = W) (fun z0 _ _ => (intOf z0).toNat)
  case atStart => exact ⟨z, 0, rfl, rfl, h1, h2, by omega, rfl⟩
  case round =>
    obtain ⟨y, n, rfl, rfl, y1, y2, hn, rfl⟩ := hrel
    by_cases hy : 1 < y
    · have hh := logN_half hy
      have Hh := hide hh
      clear hh
      have q0 : 0 ≤ y := by omega
      have q1 : n < 63 := by omega
      go_wp2
      refine ⟨⟨y / 2, n + 1, rfl, rfl, by omega, by omega, ?_, trivial⟩, by simp only [intOf]; omega⟩
      have := unhide Hh
      omega
    · have hy0 := logN_one (show y ≤ 1 by omega)
      obtain rfl : L = n := by omega
      go_wp2
      go_ret
      exact ⟨rfl, dr0 _⟩
def plF : List Int → Int → Nat → Int
  | [], _, _ => -1
  | v :: r, k, i => if v = k ∧ v ≠ 0 then i else plF r k (i + 1)
def placeN (l : List Int) (k : Int) : Int := plF l k 0
set_option maxRecDepth 100000 in
theorem place_any (l : List Int) (k : Int) (g n : Nat) (hn : l.length = n) (hn2 : n < 100) (W : World) (hc : ∀ j v, l[j]? = some v → W.cell? ⟨g, j, none⟩ = some (.int .i64 v)) : Calls Try.prog 52 #[.slice (some ⟨g, 0, none⟩) n n, .int .i64 k] W fun e w' => e = .returned (.int .i64 (placeN l k)) ∧ ∃ m, w' = W.drewN m := by
  go_enter Try.func52, Try.ntmps52
  go_wp2
  go_loopw [9] (fun i9 wr => ∃ j : Nat, i9 = .int .i64 j ∧ j ≤ n ∧ placeN l k = plF (l.drop j) k j ∧ wr = W) (fun i9 _ => n - (intOf i9).toNat)
  case atStart => exact ⟨0, rfl, Nat.zero_le _, rfl, rfl⟩
  case round =>
    obtain ⟨j, rfl, hj, hp, rfl⟩ := hrel
    have Hp := hide hp
    clear hp
    by_cases hjn : j < n
    · obtain ⟨v, hv, hd⟩ : ∃ v, l[j]? = some v ∧ l.drop j = v :: l.drop (j + 1) := ⟨l[j]'(by omega), List.getElem?_eq_getElem _, List.drop_eq_getElem_cons _⟩
      have cv := hc j v hv
      have hd := hide hd
      have Hv := hide hv
      clear hv hc
      have k1 : (j : Int) < n := by omega
      have k3 : j < 100 := by omega
      by_cases q : v = k ∧ v ≠ 0
      · have q1 := eq_t q.1
        have q2 := ne_t q.2
        have hq := hide q
        clear q
        go_wp2
        go_ret
        refine ⟨congrArg (fun x => Ending.returned (Value.int .i64 x)) ?_, dr0 _⟩
        rw [unhide Hp, unhide hd, plF, if_pos (unhide hq)]
      · have hq := hide q
        have qc : v ≠ k ∨ v = 0 := by omega
        clear q
        rcases qc with q1 | q1
        · have q2 := ne_b q1
          go_wp2
          refine ⟨⟨j + 1, rfl, hjn, ?_, trivial⟩, by simp only [intOf]; omega⟩
          rw [unhide Hp, unhide hd, plF, if_neg (unhide hq)]
        · subst q1
          go_wp2
          all_goals (refine ⟨⟨j + 1, rfl, hjn, ?_, trivial⟩, by simp only [intOf]; omega⟩)
          all_goals (rw [unhide Hp, unhide hd, plF, if_neg (unhide hq)])
    · obtain rfl : n = j := by omega
      have k1 : ¬ ((n : Int) < n) := by omega
      go_wp2
      go_ret
      refine ⟨?_, dr0 _⟩
      rw [unhide Hp, List.drop_eq_nil_of_le (by omega)]
      rfl
end Go.Proofs.Ytopbdiekfhikmaa
