/- Layer 3: put, and what is made of it. -/
import Derived.Test.YtopbdiekfhikmaaD6
namespace Go.Proofs.Ytopbdiekfhikmaa
open Go.RowKit
def or32 (a b : Nat) : Nat := (a ||| b) % 4294967296
theorem or32_cast (a b : Nat) : ((or32 a b : Nat) : Int) = bits .or .u32 (a : Int) (b : Int) := by
  show _ = ((BitVec.ofInt 32 (a : Int) ||| BitVec.ofInt 32 (b : Int)).toNat : Int) % 2 ^ 32
  unfold or32
  rw [BitVec.toNat_or, bv_ofInt, bv_ofInt, ← Nat.or_mod_two_pow]
  omega
theorem or32i (a b : Nat) : bits .or .u32 (a : Int) (b : Int) = ((or32 a b : Nat) : Int) := (or32_cast a b).symm
def pt (n : Int) (w : Nat) : Nat := (n % 2 ^ w).toNat
def putN (n : Int) (s w : Nat) : Nat := pt n w * 2 ^ s % 4294967296
theorem pt_lt (n : Int) (w : Nat) : pt n w < 2 ^ w := by
  unfold pt
  have h1 : (0 : Int) < 2 ^ w := Int.pow_pos (by decide)
  have h2 := Int.emod_lt_of_pos n h1
  have h3 := Int.emod_nonneg n (show (2 : Int) ^ w ≠ 0 by omega)
  have h4 : ((2 ^ w : Nat) : Int) = (2 : Int) ^ w := by simp
  omega
set_option maxRecDepth 100000 in
theorem put_any (n : Int) (s w : Nat) (hw : w < 31) (hs : s < 32) (W : World) : Calls Try.prog 46 #[.int .i64 n, .int .i64 s, .int .i64 w] W fun e w' => e = .returned (.int .u32 (putN n s w : Nat)) ∧ ∃ m, w' = W.drewN m := by
  have e1 := and64 n w (by omega)
  have h1 : (0 : Int) < 2 ^ w := Int.pow_pos (by decide)
  have h3 := Int.emod_nonneg n (show (2 : Int) ^ w ≠ 0 by omega)
  have h4 : ((2 ^ w : Nat) : Int) = (2 : Int) ^ w := by simp
  have hb1 : (2 : Nat) ^ w ≤ 2 ^ 30 := Nat.pow_le_pow_right (n := 2) (by omega) (by omega)
  have hb2 : (1 : Nat) ≤ 2 ^ w := Nat.one_le_two_pow
  have h5 := pt_lt n w
  have h6 : n % 2 ^ w = (pt n w : Nat) := by unfold pt; omega
  have H6 := hide h6
  clear h3 h6
  have k1 : (0 : Int) ≤ w := by omega
  have k2 : (0 : Int) ≤ s := by omega
  have k3 : (w : Int).toNat = w := by omega
  have k4 : (s : Int).toNat = s := by omega
  go_enter Try.func46, Try.ntmps46
  go_wp2
  go_ret
  refine ⟨congrArg (fun x => Ending.returned (Value.int .u32 x)) ?_, dr0 _⟩
  unfold putN
  rw [unhide H6, Int.natCast_emod, Int.natCast_mul, Int.natCast_pow]
  rfl
theorem mark_any (u : Bool) (W : World) : Calls Try.prog 49 #[.bool u] W fun e w' => e = .returned (.int .u32 (u.toNat : Nat)) ∧ ∃ m, w' = W.drewN m := by
  cases u
  · go_enter Try.func49, Try.ntmps49
    go_wp2
    go_ret
    exact ⟨rfl, dr0 _⟩
  · go_enter Try.func49, Try.ntmps49
    go_wp2
    go_ret
    exact ⟨rfl, dr0 _⟩
def rN (rd r1 r2 : Int) : Nat := or32 (or32 (putN rd 7 5) (putN r1 15 5)) (putN r2 20 5)
def iN (rd r1 i : Int) : Nat := or32 (or32 (putN rd 7 5) (putN r1 15 5)) (putN i 20 12)
def sN (r1 r2 i : Int) : Nat := or32 (or32 (or32 (putN r1 15 5) (putN r2 20 5)) (putN i 7 5)) (putN (i / 32) 25 7)

set_option maxRecDepth 100000 in
set_option maxHeartbeats 2000000 in
theorem r_any (k rd r1 r2 r3 rm c sz i : Int) (hi : (Lit.int .i64 i).wf = true) (u us wd : Bool) (W : World) : Calls Try.prog 51 #[.agg #[.int .i64 k, .int .i64 rd, .int .i64 r1, .int .i64 r2, .int .i64 r3, .int .i64 rm, .int .i64 c, .int .i64 sz, .int .i64 i, .bool u, .bool us, .bool wd]] W fun e w' => e = .returned (.int .u32 (rN rd r1 r2 : Nat)) ∧ GN W w' := by
  obtain ⟨z, hz⟩ : ∃ z : Int, z = ((rN rd r1 r2 : Nat) : Int) := ⟨_, rfl⟩
  rw [← hz]
  unfold rN at hz
  simp only [or32_cast] at hz
  have Hz := hide hz
  clear hz
  have hi2 := i64' hi
  have hi3 : -9223372036854775808 ≤ i / 32 ∧ i / 32 < 9223372036854775808 := by omega
  go_enter Try.func51, Try.ntmps51
  go_upto_region 1 with fail
  go_quiet ((go_at_call 46; exact Calls.quiet_of (put_any _ _ _ (by decide) (by decide) _)))
  go_wp2
  go_ret
  exact ⟨congrArg (fun x => Ending.returned (Value.int .u32 x)) (unhide Hz).symm, ((GN.refl W).alloc _).drewN _⟩
set_option maxRecDepth 100000 in
set_option maxHeartbeats 2000000 in
theorem i_any (k rd r1 r2 r3 rm c sz i : Int) (hi : (Lit.int .i64 i).wf = true) (u us wd : Bool) (W : World) : Calls Try.prog 47 #[.agg #[.int .i64 k, .int .i64 rd, .int .i64 r1, .int .i64 r2, .int .i64 r3, .int .i64 rm, .int .i64 c, .int .i64 sz, .int .i64 i, .bool u, .bool us, .bool wd]] W fun e w' => e = .returned (.int .u32 (iN rd r1 i : Nat)) ∧ GN W w' := by
  obtain ⟨z, hz⟩ : ∃ z : Int, z = ((iN rd r1 i : Nat) : Int) := ⟨_, rfl⟩
  rw [← hz]
  unfold iN at hz
  simp only [or32_cast] at hz
  have Hz := hide hz
  clear hz
  have hi2 := i64' hi
  have hi3 : -9223372036854775808 ≤ i / 32 ∧ i / 32 < 9223372036854775808 := by omega
  go_enter Try.func47, Try.ntmps47
  go_upto_region 1 with fail
  go_quiet ((go_at_call 46; exact Calls.quiet_of (put_any _ _ _ (by decide) (by decide) _)))
  go_wp2
  go_ret
  exact ⟨congrArg (fun x => Ending.returned (Value.int .u32 x)) (unhide Hz).symm, ((GN.refl W).alloc _).drewN _⟩
set_option maxRecDepth 100000 in
set_option maxHeartbeats 2000000 in
theorem s_any (k rd r1 r2 r3 rm c sz i : Int) (hi : (Lit.int .i64 i).wf = true) (u us wd : Bool) (W : World) : Calls Try.prog 50 #[.agg #[.int .i64 k, .int .i64 rd, .int .i64 r1, .int .i64 r2, .int .i64 r3, .int .i64 rm, .int .i64 c, .int .i64 sz, .int .i64 i, .bool u, .bool us, .bool wd]] W fun e w' => e = .returned (.int .u32 (sN r1 r2 i : Nat)) ∧ GN W w' := by
  obtain ⟨z, hz⟩ : ∃ z : Int, z = ((sN r1 r2 i : Nat) : Int) := ⟨_, rfl⟩
  rw [← hz]
  unfold sN at hz
  simp only [or32_cast] at hz
  have Hz := hide hz
  clear hz
  have hi2 := i64' hi
  have hi3 : -9223372036854775808 ≤ i / 32 ∧ i / 32 < 9223372036854775808 := by omega
  go_enter Try.func50, Try.ntmps50
  go_upto_region 1 with fail
  go_quiet ((go_at_call 46; exact Calls.quiet_of (put_any _ _ _ (by decide) (by decide) _)))
  go_wp2
  go_ret
  exact ⟨congrArg (fun x => Ending.returned (Value.int .u32 x)) (unhide Hz).symm, ((GN.refl W).alloc _).drewN _⟩
end Go.Proofs.Ytopbdiekfhikmaa
