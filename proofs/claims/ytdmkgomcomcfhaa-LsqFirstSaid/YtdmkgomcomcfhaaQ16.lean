/- Layer 23: read and write: of 64 bytes. -/
import Derived.Test.YtdmkgomcomcfhaaQ14
namespace Go.Proofs.Ytdmkgomcomcfhaa
open Go.RowKit

def bytes (n : Nat) (M : Nat → Int) : List Value := (List.range n).map fun i => .int .u8 (M i)
theorem bytes_len (n : Nat) (M : Nat → Int) : (bytes n M).length = n := by simp [bytes]
theorem bytes_get (n : Nat) (M : Nat → Int) {i : Nat} (h : i < n) : (bytes n M)[i]? = some (.int .u8 (M i)) := by
  unfold bytes
  rw [List.getElem?_map, List.getElem?_range h]
  rfl
theorem bytes_ext (n : Nat) (M M' : Nat → Int) (h : ∀ i, i < n → M i = M' i) : bytes n M = bytes n M' := by
  unfold bytes
  apply List.map_congr_left
  intro i hi
  rw [h i (List.mem_range.1 hi)]
def wrM (M : Nat → Int) (a z : Nat) (v : Int) : Nat → Int := fun j => if a ≤ j ∧ j < a + z then v / 2 ^ (8 * (j - a)) % 256 else M j
def rdM (M : Nat → Int) (a : Nat) : Nat → Int
  | 0 => 0
  | i + 1 => rdM M a i + M (a + i) * 2 ^ (8 * i)
def BM (M : Nat → Int) : Prop := ∀ j, 0 ≤ M j ∧ M j < 256
theorem wrM_bm {M : Nat → Int} (h : BM M) (a z : Nat) (v : Int) : BM (wrM M a z v) := by
  intro j
  unfold wrM
  split
  · omega
  · exact h j
theorem rdM_bd {M : Nat → Int} (h : BM M) (a i : Nat) : 0 ≤ rdM M a i ∧ rdM M a i < 2 ^ (8 * i) := by
  induction i with
  | zero => exact ⟨by simp [rdM], by simp [rdM]⟩
  | succ i ih =>
    obtain ⟨h0, h1⟩ := h (a + i)
    have p := pow_pos (8 * i)
    have h3 : M (a + i) * 2 ^ (8 * i) ≤ 255 * 2 ^ (8 * i) := Int.mul_le_mul_of_nonneg_right (by omega) (by omega)
    have h4 : 0 ≤ M (a + i) * 2 ^ (8 * i) := Int.mul_nonneg h0 (by omega)
    unfold rdM
    rw [pow8]
    omega
theorem wrM_zero (M : Nat → Int) (a : Nat) (v : Int) : wrM M a 0 v = M := by
  funext j
  unfold wrM
  rw [if_neg (by omega)]
theorem bytes_up (n : Nat) (M : Nat → Int) (a i : Nat) (v : Int) (h : a + i < n) : (bytes n (wrM M a i v)).set (a + i) (.int .u8 (v / 2 ^ (8 * i) % 256)) = bytes n (wrM M a (i + 1) v) := by
  apply List.ext_getElem?
  intro j
  by_cases hj : j < n
  · rw [List.getElem?_set, bytes_len, bytes_get _ _ hj, bytes_get _ _ hj]
    by_cases e : a + i = j
    · subst e
      rw [if_pos rfl, if_pos h]
      unfold wrM
      rw [if_pos (by omega), show a + i - a = i by omega]
    · rw [if_neg e]
      unfold wrM
      by_cases h1 : a ≤ j ∧ j < a + i
      · rw [if_pos h1, if_pos (by omega)]
      · rw [if_neg h1, if_neg (by omega)]
  · rw [List.getElem?_eq_none (by rw [List.length_set, bytes_len]; omega), List.getElem?_eq_none (by rw [bytes_len]; omega)]
theorem pow_le56 {i : Nat} (h : i < 8) : (2 : Int) ^ (8 * i) ≤ 72057594037927936 := by
  have h1 : 2 ^ (8 * i) ≤ 2 ^ 56 := Nat.pow_le_pow_right (by decide) (by omega)
  have h2 : (2 : Int) ^ (8 * i) = ((2 ^ (8 * i) : Nat) : Int) := by simp
  rw [h2]
  omega
theorem shrI (v : Int) (i : Nat) (hi : i < 8) (w : World) : (binOp .shr 28 (.int .u64 v) (.int .i64 (8 * (i : Int)))).run Try.prog w = .ok (.int .u64 (v / 2 ^ (8 * i))) w := by
  have h : (8 * (i : Int)) = ((8 * i : Nat) : Int) := by simp
  rw [h, binOp_shr, shift_shr .u64 .i64 v ((8 * i : Nat) : Int) (by omega) (by show ((8 * i : Nat) : Int) ≤ ((64 : Nat) : Int); omega), Int.toNat_natCast]
  rfl
theorem shlI (v : Int) (i : Nat) (hi : i < 8) (v0 : 0 ≤ v) (v1 : v < 256) (w : World) : (binOp .shl 28 (.int .u64 v) (.int .i64 (8 * (i : Int)))).run Try.prog w = .ok (.int .u64 (v * 2 ^ (8 * i))) w := by
  have h : (8 * (i : Int)) = ((8 * i : Nat) : Int) := by simp
  have p := pow_pos (8 * i)
  have p2 := pow_le56 hi
  have h3 : v * 2 ^ (8 * i) ≤ 255 * 2 ^ (8 * i) := Int.mul_le_mul_of_nonneg_right (by omega) (by omega)
  rw [h]
  exact shl64 v _ (8 * i) rfl (by omega) (Int.mul_nonneg v0 (by omega)) (by omega) w
section
variable {w0 w : World} {L : List HP}
set_option maxRecDepth 100000 in
set_option maxHeartbeats 1000000 in
theorem write_h {V : Value} {M : Nat → Int} (h : Heap w0 w (HP.slw V 1 64 (bytes 64 M) :: L)) (a z : Nat) (hz : z ≤ 8) (ha : a + z ≤ 64) (v : Int) (v0 : 0 ≤ v ∧ v < 18446744073709551616) :
    Calls Try.prog 31 #[V, .int .i64 a, .int .i64 z, .int .u64 v] w fun r w' => r = .returned (.tuple #[]) ∧ Heap w0 w' (HP.slw V 1 64 (bytes 64 (wrM M a z v)) :: L) := by
  obtain ⟨g, o, cap, hv, _⟩ := h.slw.addr (by omega)
  subst hv
  have H := hide h
  clear h
  go_enter Try.func31, Try.ntmps31
  go_wp2
  go_loopw [8] (fun i wr => ∃ k : Nat, i = .int .i64 k ∧ k ≤ z ∧ Hid (Heap w0 wr (HP.slw (.slice (some ⟨g, o, none⟩) 64 cap) 1 64 (bytes 64 (wrM M a k v)) :: L))) (fun i _ => z - (intOf i).toNat)
  case atStart => exact ⟨0, rfl, Nat.zero_le _, by rw [wrM_zero]; exact H⟩
  case round =>
    obtain ⟨k, rfl, hk, Hk⟩ := hrel
    by_cases hlt : k < z
    · obtain ⟨hl, hc, hf⟩ := (unhide Hk).slw.at_ (j := a + k) (by omega)
      rw [bytes_get _ _ (by omega)] at hc
      have hs := shrI v k (by omega)
      have hw : IntKind.i64.wrap ((a : Int) + (k : Int)) = ((a + k : Nat) : Int) := by rw [wrap_i64]; split <;> omega
      have hwr := (unhide Hk).write (j := a + k) (by omega) (.int .u8 (v / 2 ^ (8 * k) % 256))
      rw [bytes_up _ _ _ _ _ (by omega)] at hwr
      have HW := hide hwr
      clear hwr
      go_wp2
      exact ⟨⟨k + 1, by go_num, by omega, HW⟩, by simp [intOf]; omega⟩
    · obtain rfl : k = z := by omega
      go_wp2
      exact bodyPost_end (by simp [results, Try.results31, go_sem]) rfl ⟨rfl, unhide Hk⟩
set_option maxRecDepth 100000 in
set_option maxHeartbeats 1000000 in
theorem read_h {V : Value} {M : Nat → Int} (hM : BM M) (h : Heap w0 w (HP.slw V 1 64 (bytes 64 M) :: L)) (a z : Nat) (hz : z ≤ 8) (ha : a + z ≤ 64) :
    Calls Try.prog 32 #[V, .int .i64 a, .int .i64 z] w fun r w' => r = .returned (.int .u64 (rdM M a z)) ∧ Heap w0 w' (HP.slw V 1 64 (bytes 64 M) :: L) := by
  obtain ⟨g, o, cap, hv, _⟩ := h.slw.addr (by omega)
  subst hv
  have H := hide h
  have HB := hide (rdM_bd hM a)
  have HM := hide hM
  clear h hM
  go_enter Try.func32, Try.ntmps32
  go_wp2
  go_loopw [7, 8] (fun x i wr => ∃ k : Nat, i = .int .i64 k ∧ x = .int .u64 (rdM M a k) ∧ k ≤ z ∧ wr = w) (fun _ i _ => z - (intOf i).toNat)
  case atStart => exact ⟨0, rfl, rfl, Nat.zero_le _, rfl⟩
  case round =>
    obtain ⟨k, rfl, rfl, hk, rfl⟩ := hrel
    by_cases hlt : k < z
    · obtain ⟨hl, hc, hf⟩ := (unhide H).slw.at_ (j := a + k) (by omega)
      rw [bytes_get _ _ (by omega)] at hc
      have hs := shlI (M (a + k)) k (by omega) (unhide HM (a + k)).1 (unhide HM (a + k)).2
      obtain ⟨b0, b1⟩ := unhide HB (k + 1)
      have p2 := pow_le56 (show k < 8 by omega)
      have p1 := pow_pos (8 * k)
      obtain ⟨c0, c1⟩ := unhide HB k
      obtain ⟨m0, m1⟩ := unhide HM (a + k)
      have m2 : M (a + k) * 2 ^ (8 * k) ≤ 255 * 2 ^ (8 * k) := Int.mul_le_mul_of_nonneg_right (by omega) (by omega)
      have m3 : 0 ≤ M (a + k) * 2 ^ (8 * k) := Int.mul_nonneg m0 (by omega)
      have e1 : IntKind.u64.wrap (M (a + k)) = M (a + k) := by rw [IntKind.wrap_u64]; omega
      have e2 : IntKind.u64.wrap (M (a + k) * 2 ^ (8 * k)) = M (a + k) * 2 ^ (8 * k) := by rw [IntKind.wrap_u64]; omega
      have e3 : IntKind.u64.wrap (rdM M a k + M (a + k) * 2 ^ (8 * k)) = rdM M a (k + 1) := by
        have : rdM M a k < 18446744073709551616 - 255 * 72057594037927936 ∨ True := .inr trivial
        rw [IntKind.wrap_u64, show rdM M a k + M (a + k) * 2 ^ (8 * k) = rdM M a (k + 1) from rfl]
        have q : (2 : Int) ^ (8 * (k + 1)) = 256 * 2 ^ (8 * k) := pow8 k
        omega
      have E := hide (And.intro e1 (And.intro e2 e3))
      clear b0 b1 p2 p1 c0 c1 m0 m1 m2 m3 e1 e2 e3 hs
      go_wp2
      refine ⟨⟨k + 1, by go_num, ?_, by omega, trivial⟩, by simp [intOf]; omega⟩
      rw [(unhide E).1, (unhide E).2.1, (unhide E).2.2]
    · obtain rfl : k = z := by omega
      go_wp2
      go_ret
      exact ⟨rfl, unhide H⟩
end
end Go.Proofs.Ytdmkgomcomcfhaa
