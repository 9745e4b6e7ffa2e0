/- Layer 3: fields and immediates of a word. -/
import Derived.Test.YtopbdiekfhikmaaD1
import Derived.Laws.BitsAllLaws
namespace Go.Proofs.Ytopbdiekfhikmaa
open Go.RowKit

theorem bv_toNat (n : Nat) (x : Int) : (BitVec.ofInt n x).toNat = (x % (2 ^ n : Nat)).toNat := by
  simp [BitVec.toNat_ofInt]
theorem wrap_i64 (n : Int) : IntKind.i64.wrap n = if n % 18446744073709551616 ≥ 9223372036854775808 then n % 18446744073709551616 - 18446744073709551616 else n % 18446744073709551616 := by
  simp [IntKind.wrap, IntKind.bits, IntKind.signed]
theorem wrap_i32 (n : Int) : IntKind.i32.wrap n = if n % 4294967296 ≥ 2147483648 then n % 4294967296 - 4294967296 else n % 4294967296 := by
  simp [IntKind.wrap, IntKind.bits, IntKind.signed]
theorem and64 (x : Int) (k : Nat) (hk : k < 32) : bits .and .i64 x (2 ^ k - 1) = x % 2 ^ k := by
  have h1 : 2 ^ k ≤ 2 ^ 31 := Nat.pow_le_pow_right (by decide) (by omega)
  have h2 : 1 ≤ 2 ^ k := Nat.one_le_two_pow
  have e1 : (((2 : Int) ^ k - 1) % ((2 ^ 64 : Nat) : Int)).toNat = 2 ^ k - 1 := by
    have : (2 : Int) ^ k = ((2 ^ k : Nat) : Int) := by simp
    rw [this]
    omega
  have hd : ((2 ^ k : Nat) : Int) ∣ 18446744073709551616 := by
    have : (18446744073709551616 : Int) = ((2 ^ 64 : Nat) : Int) := by decide
    rw [this]
    exact Int.natCast_dvd_natCast.2 (Nat.pow_dvd_pow 2 (by omega))
  have e2 : ((x % ((2 ^ 64 : Nat) : Int)).toNat % 2 ^ k : Nat) = (x % 2 ^ k).toNat := by
    have h3 : 0 ≤ x % ((2 ^ 64 : Nat) : Int) := Int.emod_nonneg _ (by decide)
    have h4 : 0 ≤ x % ((2 ^ k : Nat) : Int) := Int.emod_nonneg _ (by omega)
    apply Int.natCast_inj.1
    have e3 : (2 : Int) ^ k = ((2 ^ k : Nat) : Int) := by simp
    rw [e3, Int.toNat_of_nonneg h4, Int.natCast_emod, Int.toNat_of_nonneg h3]
    exact Int.emod_emod_of_dvd x hd
  show IntKind.i64.wrap ((BitVec.ofInt 64 x &&& BitVec.ofInt 64 (2 ^ k - 1)).toNat : Int) = _
  rw [BitVec.toNat_and, bv_toNat, bv_toNat, e1, Nat.and_two_pow_sub_one_eq_mod, e2, wrap_i64]
  have h4 : 0 ≤ x % (2 : Int) ^ k := Int.emod_nonneg _ (by have : (2 : Int) ^ k = ((2 ^ k : Nat) : Int) := by simp
                                                           omega)
  have h5 : x % (2 : Int) ^ k < 2 ^ k := Int.emod_lt_of_pos _ (by have : (2 : Int) ^ k = ((2 ^ k : Nat) : Int) := by simp
                                                                  omega)
  have : (2 : Int) ^ k = ((2 ^ k : Nat) : Int) := by simp
  split <;> omega
theorem andNot32 (b : Nat) (hb : b < 4294967296) : bits .andNot .i32 (wrap32 b) 4095 = wrap32 b / 4096 * 4096 := by
  show IntKind.i32.wrap ((BitVec.ofInt 32 (wrap32 b) &&& ~~~BitVec.ofInt 32 4095).toNat : Int) = _
  have e1 : (wrap32 b % (2 ^ 32 : Nat)).toNat = b := by unfold wrap32; omega
  have e2 : 2 ^ 32 - 1 - ((4095 : Int) % (2 ^ 32 : Nat)).toNat = (2 ^ 20 - 1) <<< 12 := by decide
  rw [BitVec.toNat_and, BitVec.toNat_not, bv_toNat, bv_toNat, e1, e2, nat_and_high 12 20 b (by omega), wrap_i32]
  unfold wrap32
  split <;> omega
theorem or64_5 (x y : Int) (h1 : -9223372036854775808 ≤ x) (h2 : x < 9223372036854775808) (hx : x % 32 = 0) (k1 : 0 ≤ y) (k2 : y < 32) : bits .or .i64 x y = x + y := by
  show IntKind.i64.wrap ((BitVec.ofInt 64 x ||| BitVec.ofInt 64 y).toNat : Int) = _
  rw [BitVec.toNat_or, bv_toNat, bv_toNat, nat_or_parts 5 _ _ (by omega) (by omega), wrap_i64]
  split <;> omega
theorem or64_11 (x y : Int) (h1 : -9223372036854775808 ≤ x) (h2 : x < 9223372036854775808) (hx : x % 2048 = 0) (k1 : 0 ≤ y) (k2 : y < 2048) : bits .or .i64 x y = x + y := by
  show IntKind.i64.wrap ((BitVec.ofInt 64 x ||| BitVec.ofInt 64 y).toNat : Int) = _
  rw [BitVec.toNat_or, bv_toNat, bv_toNat, nat_or_parts 11 _ _ (by omega) (by omega), wrap_i64]
  split <;> omega
theorem or64_12 (x y : Int) (h1 : -9223372036854775808 ≤ x) (h2 : x < 9223372036854775808) (hx : x % 4096 = 0) (k1 : 0 ≤ y) (k2 : y < 4096) : bits .or .i64 x y = x + y := by
  show IntKind.i64.wrap ((BitVec.ofInt 64 x ||| BitVec.ofInt 64 y).toNat : Int) = _
  rw [BitVec.toNat_or, bv_toNat, bv_toNat, nat_or_parts 12 _ _ (by omega) (by omega), wrap_i64]
  split <;> omega
theorem or64_20 (x y : Int) (h1 : -9223372036854775808 ≤ x) (h2 : x < 9223372036854775808) (hx : x % 1048576 = 0) (k1 : 0 ≤ y) (k2 : y < 1048576) : bits .or .i64 x y = x + y := by
  show IntKind.i64.wrap ((BitVec.ofInt 64 x ||| BitVec.ofInt 64 y).toNat : Int) = _
  rw [BitVec.toNat_or, bv_toNat, bv_toNat, nat_or_parts 20 _ _ (by omega) (by omega), wrap_i64]
  split <;> omega
def immI (b : Nat) : Int := if fd b 20 12 < 2048 then (fd b 20 12 : Int) else (fd b 20 12 : Int) - 4096
def immU (b : Nat) : Int := if fd b 12 20 < 524288 then (fd b 12 20 : Int) * 4096 else (fd b 12 20 : Int) * 4096 - 4294967296
def immS (b : Nat) : Int := (if fd b 25 7 < 64 then (fd b 25 7 : Int) * 32 else (fd b 25 7 : Int) * 32 - 4096) + fd b 7 5
def immB (b : Nat) : Int := (if fd b 31 1 = 0 then 0 else -4096) + (fd b 7 1 : Int) * 2048 + (fd b 25 6 : Int) * 32 + (fd b 8 4 : Int) * 2
def immJ (b : Nat) : Int := (if fd b 31 1 = 0 then 0 else -1048576) + (fd b 12 8 : Int) * 4096 + (fd b 20 1 : Int) * 2048 + (fd b 21 10 : Int) * 2
theorem fI (b : Nat) (_hb : b < 4294967296) : wrap64 (wrap32 b / 1048576) = immI b := by
  unfold immI fd wrap64 wrap32
  split <;> omega
theorem fU (b : Nat) (hb : b < 4294967296) : wrap64 (bits .andNot .i32 (wrap32 b) 4095) = immU b := by
  rw [andNot32 b hb]
  unfold immU fd wrap64 wrap32
  split <;> omega
theorem fS (b : Nat) (hb : b < 4294967296) : bits .or .i64 (wrap64 (wrap64 (wrap32 b / 33554432) * 32)) (fd b 7 5 : Nat) = immS b := by
  have h1 : wrap64 (wrap64 (wrap32 b / 33554432) * 32) = (if fd b 25 7 < 64 then (fd b 25 7 : Int) * 32 else (fd b 25 7 : Int) * 32 - 4096) := by
    unfold fd wrap64 wrap32
    split <;> omega
  have h2 := fd_lt b 7 5
  have h3 := fd_lt b 25 7
  rw [h1]
  unfold immS
  generalize fd b 25 7 = s at *
  generalize fd b 7 5 = t at *
  split <;> exact or64_5 _ _ (by omega) (by omega) (by omega) (by omega) (by omega)
theorem fB (b : Nat) (hb : b < 4294967296) : bits .or .i64 (bits .or .i64 (bits .or .i64 (wrap64 (wrap64 (wrap32 b / 2147483648) * 4096)) (wrap64 ((fd b 7 1 : Nat) * 2048))) (wrap64 ((fd b 25 6 : Nat) * 32))) (wrap64 ((fd b 8 4 : Nat) * 2)) = immB b := by
  have h1 : wrap64 (wrap64 (wrap32 b / 2147483648) * 4096) = (if fd b 31 1 = 0 then 0 else -4096) := by
    unfold fd wrap64 wrap32
    split <;> omega
  rw [h1]
  unfold immB
  obtain ⟨t, ht⟩ : ∃ t : Int, t = (if fd b 31 1 = 0 then 0 else -4096) := ⟨_, rfl⟩
  have ht2 : t = 0 ∨ t = -4096 := by rw [ht]; split <;> simp
  rw [← ht]
  clear ht h1
  have g0 := fd_lt b 7 1
  have w0 : wrap64 ((fd b 7 1 : Nat) * 2048) = (fd b 7 1 : Nat) * 2048 := by unfold wrap64; omega
  rw [w0]
  generalize fd b 7 1 = x0 at *
  have g1 := fd_lt b 25 6
  have w1 : wrap64 ((fd b 25 6 : Nat) * 32) = (fd b 25 6 : Nat) * 32 := by unfold wrap64; omega
  rw [w1]
  generalize fd b 25 6 = x1 at *
  have g2 := fd_lt b 8 4
  have w2 : wrap64 ((fd b 8 4 : Nat) * 2) = (fd b 8 4 : Nat) * 2 := by unfold wrap64; omega
  rw [w2]
  generalize fd b 8 4 = x2 at *
  rw [or64_12 (t) ((x0 : Int) * 2048) (by omega) (by omega) (by omega) (by omega) (by omega)]
  rw [or64_11 (t + (x0 : Int) * 2048) ((x1 : Int) * 32) (by omega) (by omega) (by omega) (by omega) (by omega)]
  rw [or64_5 (t + (x0 : Int) * 2048 + (x1 : Int) * 32) ((x2 : Int) * 2) (by omega) (by omega) (by omega) (by omega) (by omega)]
theorem fJ (b : Nat) (hb : b < 4294967296) : bits .or .i64 (bits .or .i64 (bits .or .i64 (wrap64 (wrap64 (wrap32 b / 2147483648) * 1048576)) (wrap64 ((fd b 12 8 : Nat) * 4096))) (wrap64 ((fd b 20 1 : Nat) * 2048))) (wrap64 ((fd b 21 10 : Nat) * 2)) = immJ b := by
  have h1 : wrap64 (wrap64 (wrap32 b / 2147483648) * 1048576) = (if fd b 31 1 = 0 then 0 else -1048576) := by
    unfold fd wrap64 wrap32
    split <;> omega
  rw [h1]
  unfold immJ
  obtain ⟨t, ht⟩ : ∃ t : Int, t = (if fd b 31 1 = 0 then 0 else -1048576) := ⟨_, rfl⟩
  have ht2 : t = 0 ∨ t = -1048576 := by rw [ht]; split <;> simp
  rw [← ht]
  clear ht h1
  have g0 := fd_lt b 12 8
  have w0 : wrap64 ((fd b 12 8 : Nat) * 4096) = (fd b 12 8 : Nat) * 4096 := by unfold wrap64; omega
  rw [w0]
  generalize fd b 12 8 = x0 at *
  have g1 := fd_lt b 20 1
  have w1 : wrap64 ((fd b 20 1 : Nat) * 2048) = (fd b 20 1 : Nat) * 2048 := by unfold wrap64; omega
  rw [w1]
  generalize fd b 20 1 = x1 at *
  have g2 := fd_lt b 21 10
  have w2 : wrap64 ((fd b 21 10 : Nat) * 2) = (fd b 21 10 : Nat) * 2 := by unfold wrap64; omega
  rw [w2]
  generalize fd b 21 10 = x2 at *
  rw [or64_20 (t) ((x0 : Int) * 4096) (by omega) (by omega) (by omega) (by omega) (by omega)]
  rw [or64_12 (t + (x0 : Int) * 4096) ((x1 : Int) * 2048) (by omega) (by omega) (by omega) (by omega) (by omega)]
  rw [or64_11 (t + (x0 : Int) * 4096 + (x1 : Int) * 2048) ((x2 : Int) * 2) (by omega) (by omega) (by omega) (by omega) (by omega)]
theorem rd_any (b : Nat) (hb : b < 4294967296) (w : World) : Calls Try.prog 15 #[.int .u32 b] w fun r w' => r = .returned (.int .i64 (fd b 7 5 : Nat)) ∧ ∃ m, w' = w.drewN m := by
  go_enter Try.func15, Try.ntmps15
  go_wp2_with (go_at_call 14; refine (bits_any _ _ _ (by assumption) (by decide) (by decide) (by decide) _).mono ?_; rintro _ _ ⟨rfl, m_, rfl⟩)
  go_ret
  exact ⟨rfl, _, rfl⟩
theorem f3_any (b : Nat) (hb : b < 4294967296) (w : World) : Calls Try.prog 18 #[.int .u32 b] w fun r w' => r = .returned (.int .i64 (fd b 12 3 : Nat)) ∧ ∃ m, w' = w.drewN m := by
  go_enter Try.func18, Try.ntmps18
  go_wp2_with (go_at_call 14; refine (bits_any _ _ _ (by assumption) (by decide) (by decide) (by decide) _).mono ?_; rintro _ _ ⟨rfl, m_, rfl⟩)
  go_ret
  exact ⟨rfl, _, rfl⟩
theorem rs1_any (b : Nat) (hb : b < 4294967296) (w : World) : Calls Try.prog 19 #[.int .u32 b] w fun r w' => r = .returned (.int .i64 (fd b 15 5 : Nat)) ∧ ∃ m, w' = w.drewN m := by
  go_enter Try.func19, Try.ntmps19
  go_wp2_with (go_at_call 14; refine (bits_any _ _ _ (by assumption) (by decide) (by decide) (by decide) _).mono ?_; rintro _ _ ⟨rfl, m_, rfl⟩)
  go_ret
  exact ⟨rfl, _, rfl⟩
theorem rs2_any (b : Nat) (hb : b < 4294967296) (w : World) : Calls Try.prog 22 #[.int .u32 b] w fun r w' => r = .returned (.int .i64 (fd b 20 5 : Nat)) ∧ ∃ m, w' = w.drewN m := by
  go_enter Try.func22, Try.ntmps22
  go_wp2_with (go_at_call 14; refine (bits_any _ _ _ (by assumption) (by decide) (by decide) (by decide) _).mono ?_; rintro _ _ ⟨rfl, m_, rfl⟩)
  go_ret
  exact ⟨rfl, _, rfl⟩
theorem f7_any (b : Nat) (hb : b < 4294967296) (w : World) : Calls Try.prog 36 #[.int .u32 b] w fun r w' => r = .returned (.int .i64 (fd b 25 7 : Nat)) ∧ ∃ m, w' = w.drewN m := by
  go_enter Try.func36, Try.ntmps36
  go_wp2_with (go_at_call 14; refine (bits_any _ _ _ (by assumption) (by decide) (by decide) (by decide) _).mono ?_; rintro _ _ ⟨rfl, m_, rfl⟩)
  go_ret
  exact ⟨rfl, _, rfl⟩
theorem immI_any (b : Nat) (hb : b < 4294967296) (w : World) : Calls Try.prog 20 #[.int .u32 b] w fun r w' => r = .returned (.int .i64 (immI b)) ∧ ∃ m, w' = w.drewN m := by
  have hf := hide (fI b hb)
  go_enter Try.func20, Try.ntmps20
  go_wp2
  go_ret
  refine ⟨congrArg (fun x => Ending.returned (Value.int .i64 x)) (unhide hf), ?_⟩
  first | exact dr0 _ | exact dr1 _ _ | exact dr2 _ _ _ | exact dr3 _ _ _ _
theorem immU_any (b : Nat) (hb : b < 4294967296) (w : World) : Calls Try.prog 16 #[.int .u32 b] w fun r w' => r = .returned (.int .i64 (immU b)) ∧ ∃ m, w' = w.drewN m := by
  have hf := hide (fU b hb)
  go_enter Try.func16, Try.ntmps16
  go_wp2
  go_ret
  refine ⟨congrArg (fun x => Ending.returned (Value.int .i64 x)) (unhide hf), ?_⟩
  first | exact dr0 _ | exact dr1 _ _ | exact dr2 _ _ _ | exact dr3 _ _ _ _
theorem immS_any (b : Nat) (hb : b < 4294967296) (w : World) : Calls Try.prog 25 #[.int .u32 b] w fun r w' => r = .returned (.int .i64 (immS b)) ∧ ∃ m, w' = w.drewN m := by
  have hf := hide (fS b hb)
  go_enter Try.func25, Try.ntmps25
  go_wp2_with (go_at_call 15; refine (rd_any _ (by assumption) _).mono ?_; rintro _ _ ⟨rfl, m_, rfl⟩)
  go_ret
  refine ⟨congrArg (fun x => Ending.returned (Value.int .i64 x)) (unhide hf), ?_⟩
  first | exact dr0 _ | exact dr1 _ _ | exact dr2 _ _ _ | exact dr3 _ _ _ _
theorem immB_any (b : Nat) (hb : b < 4294967296) (w : World) : Calls Try.prog 23 #[.int .u32 b] w fun r w' => r = .returned (.int .i64 (immB b)) ∧ ∃ m, w' = w.drewN m := by
  have hf := hide (fB b hb)
  go_enter Try.func23, Try.ntmps23
  go_wp2_with (go_at_call 14; refine (bits_any _ _ _ (by assumption) (by decide) (by decide) (by decide) _).mono ?_; rintro _ _ ⟨rfl, m_, rfl⟩)
  go_ret
  refine ⟨congrArg (fun x => Ending.returned (Value.int .i64 x)) (unhide hf), ?_⟩
  first | exact dr0 _ | exact dr1 _ _ | exact dr2 _ _ _ | exact dr3 _ _ _ _
theorem immJ_any (b : Nat) (hb : b < 4294967296) (w : World) : Calls Try.prog 17 #[.int .u32 b] w fun r w' => r = .returned (.int .i64 (immJ b)) ∧ ∃ m, w' = w.drewN m := by
  have hf := hide (fJ b hb)
  go_enter Try.func17, Try.ntmps17
  go_wp2_with (go_at_call 14; refine (bits_any _ _ _ (by assumption) (by decide) (by decide) (by decide) _).mono ?_; rintro _ _ ⟨rfl, m_, rfl⟩)
  go_ret
  refine ⟨congrArg (fun x => Ending.returned (Value.int .i64 x)) (unhide hf), ?_⟩
  first | exact dr0 _ | exact dr1 _ _ | exact dr2 _ _ _ | exact dr3 _ _ _ _
end Go.Proofs.Ytopbdiekfhikmaa
