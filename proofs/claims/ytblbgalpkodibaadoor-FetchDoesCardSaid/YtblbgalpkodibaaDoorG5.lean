/- Layer 18: New, Back. -/
import Derived.Test.YtblbgalpkodibaaDoorG4
namespace Go.Proofs.YtblbgalpkodibaaDoor
open Go.RowKit

def lcg (s : Int) : Int := (6364136223846793005 * s + 1442695040888963407) % 18446744073709551616
def lcgN : Nat → Int → Int
  | 0, s => s
  | n + 1, s => lcg (lcgN n s)
/-- The counters that a seed makes. -/
def c0 (s : Int) : St := fun i => if 48 ≤ i ∧ i < 112 then lcgN (i - 48 + 1) s / 4611686018427387904 else 0
def c0k (s : Int) (k : Nat) : St := fun i => if 48 ≤ i ∧ i < 48 + k then lcgN (i - 48 + 1) s / 4611686018427387904 else 0
theorem lcg_bd (s : Int) : 0 ≤ lcg s ∧ lcg s < 18446744073709551616 := by unfold lcg; omega
theorem lcgN_bd {s : Int} (h0 : 0 ≤ s) (h1 : s < 18446744073709551616) (n : Nat) : 0 ≤ lcgN n s ∧ lcgN n s < 18446744073709551616 := by
  cases n with
  | zero => exact ⟨h0, h1⟩
  | succ n => exact lcg_bd _
theorem c0k_0 (s : Int) : c0k s 0 = Z0 := by funext i; unfold c0k Z0; rw [if_neg (by omega)]
theorem c0k_64 (s : Int) : c0k s 64 = c0 s := rfl
theorem c0k_up (s : Int) (k : Nat) : upd (c0k s k) (48 + k) (lcgN (k + 1) s / 4611686018427387904) = c0k s (k + 1) := by
  funext i
  unfold upd c0k
  by_cases h : i = 48 + k
  · rw [if_pos h, if_pos (by omega), show i - 48 + 1 = k + 1 by omega]
  · rw [if_neg h]
    by_cases h2 : 48 ≤ i ∧ i < 48 + k
    · rw [if_pos h2, if_pos (by omega)]
    · rw [if_neg h2, if_neg (by omega)]
theorem c0_inv {s : Int} (h0 : 0 ≤ s) (h1 : s < 18446744073709551616) : GI (c0 s) := by
  refine ⟨fun i h h2 => ?_, fun i h => ?_, fun i h => ?_, fun i h => ?_, ?_, ?_, fun i h => ?_⟩
  · unfold c0; rw [if_neg (by omega)]; omega
  · unfold c0; rw [if_neg (by omega)]; omega
  · unfold c0
    have := lcgN_bd h0 h1 (48 + i - 48 + 1)
    rw [if_pos (by omega)]; omega
  · unfold c0; rw [if_neg (by omega)]; omega
  · unfold c0; rw [if_neg (by omega)]; omega
  · unfold c0; rw [if_neg (by omega)]; omega
  · unfold c0; rw [if_neg (by omega), if_neg (by omega)]; omega
section
variable {w0 w : World} {L : List HP} {b : Nat} {c : St}
set_option maxRecDepth 100000 in
set_option maxHeartbeats 1000000 in
theorem new_h (h : Heap w0 w L) (s : Int) (h0 : 0 ≤ s) (h1 : s < 18446744073709551616) :
    Calls Tryd.prog 10 #[.int .u64 s] w fun r w' => ∃ b, r = .returned (.pointer (some ⟨b, 0, none⟩)) ∧ Heap w0 w' (HP.gg b (c0 s) :: L) := by
  have hz := zero56
  have hbd := hide (fun n => lcgN_bd h0 h1 n)
  have J1 := h.new (gl Z0).toArray 78
  rw [← c0k_0 s] at J1
  obtain ⟨b, hb⟩ : ∃ b, w.heap.size = b := ⟨_, rfl⟩
  rw [hb] at J1
  go_enter Tryd.func10, Tryd.ntmps10
  go_wp2
  rw [c0k_0] at J1
  rw [← c0k_0 s] at J1
  go_loopw [7, 0] (fun i sv wr => ∃ k : Nat, i = .int .i64 k ∧ k ≤ 64 ∧ sv = .int .u64 (lcgN k s) ∧ Heap w0 wr (HP.blk b (gl (c0k s k)).toArray 78 :: L)) (fun i _ _ => 64 - (intOf i).toNat)
  case atStart => exact ⟨0, rfl, Nat.zero_le _, rfl, J1⟩
  case round =>
    obtain ⟨k, rfl, hk, rfl, hJ⟩ := hrel
    clear J1
    by_cases hlt : k < 64
    · have hbl := lt_of_heap' hJ.heap
      have d2 := (gcell hJ.heap (i := 48 + k) (by omega)).1
      have d2f := (gcell hJ.heap (i := 48 + k) (by omega)).2
      rw [gk_ctr hlt] at d2
      obtain ⟨b0, b1⟩ := unhide hbd k
      have hg := hJ.gset (48 + k) (lcgN (k + 1) s / 4611686018427387904) (gk_ctr hlt)
      rw [c0k_up] at hg
      obtain ⟨x, hx⟩ : ∃ x, lcgN k s = x := ⟨_, rfl⟩
      rw [show lcgN (k + 1) s = lcg x from by rw [← hx]; rfl] at hg
      rw [hx] at b0 b1 ⊢
      have Hx := hide hx
      clear hx
      have HG := hide hg
      clear hg
      have hl : IntKind.u64.wrap (IntKind.u64.wrap (6364136223846793005 * x) + 1442695040888963407) = lcg x := by rw [IntKind.wrap_u64, IntKind.wrap_u64]; unfold lcg; omega
      have hl2 : lcg x / 4611686018427387904 % 256 = lcg x / 4611686018427387904 := by have := lcg_bd x; omega
      go_wp2
      exact ⟨⟨k + 1, by go_num, by omega, by rw [show lcgN (k + 1) s = lcg x from by rw [← unhide Hx]; rfl], unhide HG⟩, by simp [intOf]; omega⟩
    · obtain rfl : k = 64 := by omega
      go_wp2
      go_ret
      exact ⟨_, rfl, Heap.gg.2 ⟨c0_inv h0 h1, by rw [← c0k_64]; exact hJ⟩⟩
end
end Go.Proofs.YtblbgalpkodibaaDoor
