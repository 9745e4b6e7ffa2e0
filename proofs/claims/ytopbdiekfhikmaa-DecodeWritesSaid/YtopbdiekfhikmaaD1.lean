/- Layer 3: fields of a word. -/
import Derived.Test.YtopbdiekfhikmaaTools
import Derived.Deep.QuietTactic
import Derived.BigQuiet
namespace Go.Proofs.Ytopbdiekfhikmaa
open Go.RowKit

/-- n bits of b from place lo up. -/
def fd (b lo n : Nat) : Nat := b / 2 ^ lo % 2 ^ n
def and32 (a b : Nat) : Nat := (a &&& b) % 4294967296
theorem bv_ofInt (n a : Nat) : (BitVec.ofInt n (a : Int)).toNat = a % 2 ^ n := by
  simp []
theorem and32_cast (a b : Nat) : ((and32 a b : Nat) : Int) = bits .and .u32 (a : Int) (b : Int) := by
  show _ = ((BitVec.ofInt 32 (a : Int) &&& BitVec.ofInt 32 (b : Int)).toNat : Int) % 2 ^ 32
  unfold and32
  rw [BitVec.toNat_and, bv_ofInt, bv_ofInt, ← Nat.and_mod_two_pow]
  omega
theorem fd_lt (b lo n : Nat) : fd b lo n < 2 ^ n := Nat.mod_lt _ (Nat.pow_pos (by decide))
theorem and_mask32 (a n : Nat) (hn : n < 32) : and32 a ((2 ^ n - 1) % 4294967296) = a % 2 ^ n := by
  unfold and32
  have h1 : 2 ^ n ≤ 2 ^ 31 := Nat.pow_le_pow_right (by decide) (by omega)
  have h2 : 1 ≤ 2 ^ n := Nat.one_le_two_pow
  rw [Nat.mod_eq_of_lt (a := 2 ^ n - 1) (by omega), Nat.and_two_pow_sub_one_eq_mod]
  have h3 := Nat.mod_lt a (y := 2 ^ n) (by omega)
  omega
theorem dr0 (w : World) : ∃ m, w = w.drewN m := ⟨0, rfl⟩
theorem dr1 (w : World) (a : Nat) : ∃ m, w.drewN a = w.drewN m := ⟨_, rfl⟩
theorem dr2 (w : World) (a b : Nat) : ∃ m, (w.drewN a).drewN b = w.drewN m := ⟨a + b, by rw [World.drewN_drewN]⟩
theorem dr3 (w : World) (a b c : Nat) : ∃ m, ((w.drewN a).drewN b).drewN c = w.drewN m := ⟨a + (b + c), by rw [World.drewN_drewN, World.drewN_drewN]⟩
set_option maxRecDepth 100000 in
theorem bits_any (b lo hi : Nat) (_hb : b < 4294967296) (l1 : lo ≤ hi) (l2 : hi < 32) (l3 : hi - lo < 31) (w : World) : Calls Try.prog 14 #[.int .u32 b, .int .i64 lo, .int .i64 hi] w fun r w' => r = .returned (.int .i64 (fd b lo (hi - lo + 1) : Nat)) ∧ ∃ m, w' = w.drewN m := by
  have e1 : ((fd b lo (hi - lo + 1) : Nat) : Int) = bits .and .u32 ((b : Int) / 2 ^ lo) ((2 ^ (hi - lo + 1) - 1) % 4294967296) := by
    have hp : 1 ≤ 2 ^ (hi - lo + 1) := Nat.one_le_two_pow
    unfold fd
    rw [← and_mask32 _ _ (by omega), and32_cast, Int.natCast_emod, Int.natCast_sub hp, Int.natCast_ediv, Int.natCast_pow, Int.natCast_pow]
    rfl
  have e2 : ((hi : Int) - lo + 1).toNat = hi - lo + 1 := by omega
  have hb1 : (2 : Nat) ^ (hi - lo + 1) ≤ 2 ^ 31 := Nat.pow_le_pow_right (n := 2) (by omega) (show hi - lo + 1 ≤ 31 by omega)
  have hb2 : (1 : Nat) ≤ 2 ^ (hi - lo + 1) := Nat.one_le_two_pow
  have k1 : (0 : Int) ≤ lo := by omega
  have k2 : (0 : Int) ≤ (hi : Int) - lo + 1 := by omega
  have k3 : (lo : Int).toNat = lo := by omega
  have k4 := fd_lt b lo (hi - lo + 1)
  go_enter Try.func14, Try.ntmps14
  go_wp2
  go_quiet (fail)
  go_wp2
  go_ret
  exact ⟨congrArg (fun x => Ending.returned (Value.int .i64 x)) e1.symm, _, rfl⟩
end Go.Proofs.Ytopbdiekfhikmaa
