/- Layer 15: entries, keys, and what is asked of one entry. -/
import Derived.Test.YtlkkmpfhhfaioaaMaps
import Derived.Test.YtlkkmpfhhfaioaaRegion
import Derived.Test.YtlkkmpfhhfaioaaBits
import Derived.Test.YtlkkmpfhhfaioaaRows
namespace Go.Proofs.Ytlkkmpfhhfaioaa
open Go.RowKit

theorem fol : Try.prog.follows .mixedOrders = true := by kernel_rfl
theorem hide {p : Prop} (h : p) : Hid p := h
theorem unhide {p : Prop} (h : Hid p) : p := h
def GN (w w' : World) : Prop := w.grownBy w' none
section
variable {w w' w2 : World}
theorem GN.refl (w : World) : GN w w := ⟨rfl, rfl, rfl, Nat.le_refl _, fun _ _ _ => rfl⟩
theorem GN.trans (h : GN w w') (k : GN w' w2) : GN w w2 := ⟨k.os.trans h.os, k.tape.trans h.tape, k.output.trans h.output, Nat.le_trans h.size k.size, fun i hi hn => (k.block i (Nat.lt_of_lt_of_le hi h.size) hn).trans (h.block i hi hn)⟩
theorem GN.alloc (h : GN w w') (o : Obj) : GN w (w'.alloc o) := h.trans ⟨rfl, rfl, rfl, by simp, fun k hk _ => Below.heap_alloc w' o k hk⟩
theorem GN.drew (h : GN w w') : GN w w'.drew := ⟨h.os, h.tape, h.output, h.size, h.block⟩
theorem GN.drewN (h : GN w w') (n : Nat) : GN w (w'.drewN n) := ⟨h.os, h.tape, h.output, h.size, h.block⟩
end

structure E where
  at_ : Int
  lv : Int
  sp : Int
  gl : Bool
  lf : Int
  deriving DecidableEq
def E.cs (e : E) : List Value := [.int .u64 e.at_, .int .i64 e.lv, .int .u64 e.sp, .bool e.gl, .int .u64 e.lf]
def E.zero : E := ⟨0, 0, 0, false, 0⟩
structure E.ok (e : E) : Prop where
  a0 : 0 ≤ e.at_
  a1 : e.at_ < 18446744073709551616
  l0 : 0 ≤ e.lv
  l2 : e.lv ≤ 2
  s0 : 0 ≤ e.sp
  s1 : e.sp < 18446744073709551616
  f0 : 0 ≤ e.lf
  f1 : e.lf < 18446744073709551616
theorem E.zero_ok : E.zero.ok := ⟨by decide, by decide, by decide, by decide, by decide, by decide, by decide, by decide⟩

structure K where
  at_ : Int
  lv : Int
  gl : Bool
  sp : Int
  deriving DecidableEq
def K.enc (k : K) : Value := .agg #[.int .u64 k.at_, .int .i64 k.lv, .bool k.gl, .int .u64 k.sp]
def K.ok (k : K) : Prop := 0 ≤ k.at_ ∧ k.at_ < 18446744073709551616 ∧ 0 ≤ k.lv ∧ k.lv ≤ 2 ∧ 0 ≤ k.sp ∧ k.sp < 18446744073709551616
def E.key (e : E) : K := if e.gl then ⟨e.at_, e.lv, true, 0⟩ else ⟨e.at_, e.lv, false, e.sp⟩
theorem E.key_ok {e : E} (h : e.ok) : e.key.ok := by
  obtain ⟨a, b, c, d, s, t, _, _⟩ := h
  unfold E.key
  split
  · exact ⟨a, b, c, d, Int.le_refl 0, by show (0 : Int) < 18446744073709551616; decide⟩
  · exact ⟨a, b, c, d, s, t⟩

/-! ### types -/
theorem wf_u64 {x : Int} (h0 : 0 ≤ x) (h1 : x < 18446744073709551616) : (Lit.int .u64 x).wf = true := by
  simp [Lit.wf, IntKind.min, IntKind.max, IntKind.signed, IntKind.bits]; omega
theorem wf_i64s {x : Int} (h0 : 0 ≤ x) (h1 : x ≤ 9223372036854775807) : (Lit.int .i64 x).wf = true := by
  simp [Lit.wf, IntKind.min, IntKind.max, IntKind.signed, IntKind.bits]; omega
theorem fits_e {e : E} (h : e.ok) : Fits [.some .u64, .some .i64, .some .u64, .none, .some .u64] e.cs :=
  ⟨⟨_, rfl, wf_u64 h.a0 h.a1⟩, ⟨_, rfl, wf_i64s h.l0 (by have := h.l2; omega)⟩, ⟨_, rfl, wf_u64 h.s0 h.s1⟩, ⟨_, rfl⟩, ⟨_, rfl, wf_u64 h.f0 h.f1⟩, trivial⟩
theorem fits_k {k : K} (h : k.ok) : Fits [.some .u64, .some .i64, .none, .some .u64] [.int .u64 k.at_, .int .i64 k.lv, .bool k.gl, .int .u64 k.sp] :=
  ⟨⟨_, rfl, wf_u64 h.1 h.2.1⟩, ⟨_, rfl, wf_i64s h.2.2.1 (by have := h.2.2.2.1; omega)⟩, ⟨_, rfl⟩, ⟨_, rfl, wf_u64 h.2.2.2.2.1 h.2.2.2.2.2⟩, trivial⟩
theorem flat33 : flat Try.prog 8 33 = .some [.some .u64, .some .i64, .some .u64, .none, .some .u64] := by kernel_rfl
theorem flat36 : flat Try.prog 8 36 = .some [.some .u64, .some .i64, .some .u64, .none, .some .u64] := by kernel_rfl
theorem flat64 : flat Try.prog 8 64 = .some [.some .u64, .some .i64, .none, .some .u64] := by kernel_rfl
theorem named33 : named Try.prog 8 33 = true := by kernel_rfl
theorem named36 : named Try.prog 8 36 = true := by kernel_rfl
theorem named64 : named Try.prog 8 64 = true := by kernel_rfl
theorem kt33 : Try.prog.keyTypeAt 8 33 = true := by kernel_rfl
theorem kt36 : Try.prog.keyTypeAt 8 36 = true := by kernel_rfl
theorem kt64 : Try.prog.keyTypeAt 8 64 = true := by kernel_rfl
theorem formed33 (a b c : Int) (g : Bool) (d : Int) : (Value.agg #[.int .u64 a, .int .i64 b, .int .u64 c, .bool g, .int .u64 d]).formed Try.prog 33 = true := by kernel_rfl
theorem formed36 (a b c : Int) (g : Bool) (d : Int) : (Value.agg #[.int .u64 a, .int .i64 b, .int .u64 c, .bool g, .int .u64 d]).formed Try.prog 36 = true := by kernel_rfl
theorem formed64 (a b : Int) (g : Bool) (d : Int) : (Value.agg #[.int .u64 a, .int .i64 b, .bool g, .int .u64 d]).formed Try.prog 64 = true := by kernel_rfl
theorem chk64 (e : Bool) (a b : Int) (g : Bool) (d : Int) (w : World) : (Instr.checkKey e 10000 64 (.agg #[.int .u64 a, .int .i64 b, .bool g, .int .u64 d])).run Try.prog w = .ok () w := by kernel_rfl
theorem keyLaw : KeyLaw Try.prog 54 64 3 K.enc K.ok where
  typ := Try.underlying54
  chk := fun e k w _ => chk64 e _ _ _ _ w
  eq := fun a b w ha hb => by
    obtain ⟨r, h1, h2⟩ := run_equal_flat (d := 9992) (w := w) flat64 named64 kt64 (formed64 _ _ _ _) (formed64 _ _ _ _) (fits_k ha) (fits_k hb)
    show (Op.equalIn 10000 64 a.enc b.enc).run Try.prog w = _
    unfold K.enc
    rw [h1]
    congr 1
    rw [Bool.eq_iff_iff, h2, decide_eq_true_eq]
    constructor
    · intro h
      obtain ⟨a1, a2, a3, a4⟩ := a
      obtain ⟨b1, b2, b3, b4⟩ := b
      simp at h
      obtain ⟨rfl, rfl, rfl, rfl⟩ := h
      rfl
    · intro h; rw [h]
  now := ⟨_, Try.underlying64, fun _ _ => rfl⟩
  stay := fun k => by
    unfold K.enc
    simp [Instr.sameBits]

/-! ### an entry's page -/
def hasB (e : E) (a : Int) : Bool := decide (e.at_ / 2 ^ (12 + 9 * e.lv.toNat) = a / 2 ^ (12 + 9 * e.lv.toNat))
theorem xor_zero (a b : Nat) : a ^^^ b = 0 ↔ a = b := by
  constructor
  · intro h
    apply Nat.eq_of_testBit_eq
    intro i
    have := congrArg (fun n => n.testBit i) h
    simp only [Nat.testBit_xor, Nat.zero_testBit] at this
    cases ha : a.testBit i <;> cases hb : b.testBit i <;> simp_all
  · intro h; rw [h, Nat.xor_self]
theorem xor_shift (x y k : Nat) : (x ^^^ y) / 2 ^ k = 0 ↔ x / 2 ^ k = y / 2 ^ k := by
  rw [← Nat.shiftRight_eq_div_pow, ← Nat.shiftRight_eq_div_pow, ← Nat.shiftRight_eq_div_pow, Nat.shiftRight_xor_distrib, xor_zero]

theorem lv_cases {e : E} (h : e.ok) : e.lv = 0 ∨ e.lv = 1 ∨ e.lv = 2 := by have := h.l0; have := h.l2; omega
theorem grown_b1 (w : World) (o : Obj) : GN w (w.alloc o) := (GN.refl w).alloc o
theorem has_eq (k : Nat) (x a : Int) (h0 : 0 ≤ x) (a0 : 0 ≤ a) : (((x.toNat ^^^ a.toNat : Nat) : Int) / ((2 ^ k : Nat) : Int) == 0) = decide (x / 2 ^ k = a / 2 ^ k) := by
  obtain ⟨m, rfl⟩ := Int.eq_ofNat_of_zero_le h0
  obtain ⟨n, rfl⟩ := Int.eq_ofNat_of_zero_le a0
  rw [Bool.eq_iff_iff, beq_iff_eq, decide_eq_true_eq]
  simp only [Int.toNat_natCast]
  have e1 : (((m ^^^ n : Nat) : Int) / ((2 ^ k : Nat) : Int)) = (((m ^^^ n) / 2 ^ k : Nat) : Int) := by simp
  have e2 : ((m : Int) / 2 ^ k) = ((m / 2 ^ k : Nat) : Int) := by simp
  have e3 : ((n : Int) / 2 ^ k) = ((n / 2 ^ k : Nat) : Int) := by simp
  rw [e1, e2, e3]
  have := xor_shift m n k
  omega
theorem ret_bool {a b : Bool} (h : a = b) : Ending.returned (.bool a) = .returned (.bool b) := by rw [h]
set_option maxHeartbeats 1000000 in
theorem has_any (e : E) (he : e.ok) (a : Int) (a0 : 0 ≤ a) (a1 : a < 18446744073709551616) (w : World) :
    Calls Try.prog 28 #[.agg #[.int .u64 e.at_, .int .i64 e.lv, .int .u64 e.sp, .bool e.gl, .int .u64 e.lf], .int .u64 a] w fun r w' => r = .returned (.bool (hasB e a)) ∧ GN w w' := by
  obtain ⟨x, lv, sp, gl, lf⟩ := e
  have hl := lv_cases he
  have h0 := he.a0
  have h1 := he.a1
  simp only at hl h0 h1
  have hx := u64_xor x a h0 h1 a0 a1
  rcases hl with rfl | rfl | rfl
  · go_enter Try.func28, Try.ntmps28
    go_wp2
    go_ret
    exact ⟨ret_bool (has_eq 12 x a h0 a0), grown_b1 _ _⟩
  · go_enter Try.func28, Try.ntmps28
    go_wp2
    go_ret
    exact ⟨ret_bool (has_eq 21 x a h0 a0), grown_b1 _ _⟩
  · go_enter Try.func28, Try.ntmps28
    go_wp2
    go_ret
    exact ⟨ret_bool (has_eq 30 x a h0 a0), grown_b1 _ _⟩
theorem key_any (e : E) (w : World) :
    Calls Try.prog 24 #[.agg #[.int .u64 e.at_, .int .i64 e.lv, .int .u64 e.sp, .bool e.gl, .int .u64 e.lf]] w fun r w' => r = .returned e.key.enc ∧ GN w w' := by
  obtain ⟨x, lv, sp, gl, lf⟩ := e
  cases gl
  all_goals
    go_enter Try.func24, Try.ntmps24
    go_wp2
    exact bodyPost_ret (by simp [results, Try.results24, go_sem]; rfl) rfl ⟨rfl, (grown_b1 _ _).alloc _⟩
def sizeI (lv : Int) : Int := 2 ^ (12 + 9 * lv.toNat)
set_option maxHeartbeats 1000000 in
theorem size_nat (n : Nat) (h : n ≤ 2) (w : World) : Calls Try.prog 26 #[.int .i64 (n : Int)] w fun r w' => r = .returned (.int .u64 (4096 * 512 ^ n)) ∧ w' = w := by
  go_enter Try.func26, Try.ntmps26
  go_wp2
  go_loop [3, 4] (fun o i => ∃ k : Nat, k ≤ n ∧ i = .int .i64 k ∧ o = .int .u64 (4096 * 512 ^ k)) (fun _ i => n - (intOf i).toNat)
  case atStart => exact ⟨0, by omega, rfl, by simp⟩
  case round =>
    obtain ⟨k, hk, rfl, rfl⟩ := hrel
    by_cases hlt : k < n
    · have hk3 : k = 0 ∨ k = 1 := by omega
      rcases hk3 with rfl | rfl
      · go_wp2
        go_round
        case rel => exact ⟨1, by omega, by go_num, by simp⟩
        case measure => simp [intOf]; omega
      · go_wp2
        go_round
        case rel => exact ⟨2, by omega, by go_num, by simp⟩
        case measure => simp [intOf]; omega
    · obtain rfl : n = k := by omega
      go_wp2
      go_ret
      exact ⟨rfl, rfl⟩
theorem size_any (lv : Int) (h : lv = 0 ∨ lv = 1 ∨ lv = 2) (w : World) : Calls Try.prog 26 #[.int .i64 lv] w fun r w' => r = .returned (.int .u64 (sizeI lv)) ∧ w' = w := by
  rcases h with rfl | rfl | rfl
  · exact size_nat 0 (by omega) w
  · exact size_nat 1 (by omega) w
  · exact size_nat 2 (by omega) w
theorem sizeI_pos (lv : Int) : 0 < sizeI lv := by
  unfold sizeI
  exact Int.pow_pos (by decide)
theorem sizeI_le (lv : Int) (h : lv = 0 ∨ lv = 1 ∨ lv = 2) : sizeI lv ≤ 1073741824 := by
  rcases h with rfl | rfl | rfl <;> decide
theorem quo_u64 (x s : Int) (h0 : 0 ≤ x) (h1 : x < 18446744073709551616) (hs : 0 < s) : IntKind.u64.wrap (x.tdiv s) = x / s := by
  rw [Int.tdiv_eq_ediv_of_nonneg h0, IntKind.wrap_u64]
  have h2 : 0 ≤ x / s := Int.ediv_nonneg h0 (by omega)
  have h3 : x / s ≤ x := Int.ediv_le_self s h0
  omega
set_option maxHeartbeats 1000000 in
theorem hasR_any (e : E) (he : e.ok) (a : Int) (a0 : 0 ≤ a) (a1 : a < 18446744073709551616) (w : World) :
    Calls Try.prog 23 #[.agg #[.int .u64 e.at_, .int .i64 e.lv, .int .u64 e.sp, .bool e.gl, .int .u64 e.lf], .int .u64 a] w fun r w' => r = .returned (.bool (hasB e a)) ∧ GN w w' := by
  obtain ⟨x, lv, sp, gl, lf⟩ := e
  have hl := lv_cases he
  have h0 := he.a0
  have h1 := he.a1
  simp only at hl h0 h1
  have hp := sizeI_pos lv
  have hz : (sizeI lv == 0) = false := beq_eq_false_iff_ne.2 (by omega)
  have hle := sizeI_le lv hl
  have HL := hide hl
  clear hl
  go_enter Try.func23, Try.ntmps23
  go_wp2
  go_quiet ((go_at_call 26; exact Calls.quiet_of_same (size_any lv (unhide HL) _)))
  go_wp2
  go_ret
  exact ⟨ret_bool (by unfold hasB sizeI; rw [Bool.eq_iff_iff]; simp), (grown_b1 _ _).drewN _⟩
end Go.Proofs.Ytlkkmpfhhfaioaa
