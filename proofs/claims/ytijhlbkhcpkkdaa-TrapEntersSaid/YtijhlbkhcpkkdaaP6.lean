/- Layer 13: a handler begins with nothing to be taken: the walk. -/
import Derived.Test.YtijhlbkhcpkkdaaP5
import Derived.Test.YtijhlbkhcpkkdaaOpen
namespace Go.Proofs.Ytijhlbkhcpkkdaa
open Go.RowKit

/-- A bit of a number. -/
def tb (x : Int) (i : Nat) : Bool := x.toNat.testBit i
theorem and_bit (x : Int) (i : Nat) (x0 : 0 ≤ x) (x1 : x < 18446744073709551616) (hi : i < 64) : bits .and .u64 x (2 ^ i : Nat) = (((tb x i).toNat * 2 ^ i : Nat) : Int) := by
  have hp : (2 : Nat) ^ i < 18446744073709551616 := by
    have := Nat.pow_lt_pow_right (a := 2) (by omega) hi
    omega
  have key : ∀ a : Nat, a &&& 2 ^ i = (a.testBit i).toNat * 2 ^ i := fun a => by
    apply Nat.eq_of_testBit_eq
    intro j
    rw [Nat.testBit_and, Nat.testBit_two_pow]
    by_cases e : i = j
    · subst e
      cases h : a.testBit i <;> simp [Nat.testBit_two_pow]
    · cases h : a.testBit i <;> simp [e, Nat.testBit_two_pow]
  rw [u64_and x (2 ^ i : Nat) x0 x1 (Int.natCast_nonneg _) (by have h1 : ((2 ^ i : Nat) : Int) < ((18446744073709551616 : Nat) : Int) := Int.ofNat_lt.2 hp; exact h1)]
  rw [Int.toNat_natCast, key]
  rfl
theorem tb_or (x y : Int) (i : Nat) (x0 : 0 ≤ x) (x1 : x < 18446744073709551616) (y0 : 0 ≤ y) (y1 : y < 18446744073709551616) : tb (bits .or .u64 x y) i = (tb x i || tb y i) := by
  unfold tb
  rw [u64_or x y x0 x1 y0 y1, Int.toNat_natCast, Nat.testBit_or]
theorem tb_andNot (x y : Int) (i : Nat) (hi : i < 64) (x0 : 0 ≤ x) (x1 : x < 18446744073709551616) (y0 : 0 ≤ y) (y1 : y < 18446744073709551616) : tb (bits .andNot .u64 x y) i = (tb x i && !tb y i) := by
  unfold tb
  have h := Nat.testBit_two_pow_sub_succ (n := 64) (x := y.toNat) (by omega) i
  rw [u64_andNot x y x0 x1 y0 y1, Int.toNat_natCast, Nat.testBit_and, show (18446744073709551615 - y.toNat : Nat) = 2 ^ 64 - (y.toNat + 1) by omega, h]
  simp [hi]
theorem and2 (x : Int) (x0 : 0 ≤ x) (x1 : x < 18446744073709551616) : bits .and .u64 x 2 = if tb x 1 then 2 else 0 := by
  have := and_bit x 1 x0 x1 (by omega)
  rw [show bits .and .u64 x 2 = bits .and .u64 x ((2 ^ 1 : Nat) : Int) from rfl, this]
  cases tb x 1 <;> rfl
theorem and8 (x : Int) (x0 : 0 ≤ x) (x1 : x < 18446744073709551616) : bits .and .u64 x 8 = if tb x 3 then 8 else 0 := by
  have := and_bit x 3 x0 x1 (by omega)
  rw [show bits .and .u64 x 8 = bits .and .u64 x ((2 ^ 3 : Nat) : Int) from rfl, this]
  cases tb x 3 <;> rfl
theorem mSup_eq (m k : Int) (m0 : 0 ≤ m) (m1 : m < 18446744073709551616) (hk : k = 0 ∨ k = 1) : mSup m k = bits .or .u64 (bits .andNot .u64 m 290) ((if tb m 1 then 32 else 0) + k * 256) := by
  unfold mSup
  rw [and2 m m0 m1]
  rcases hk with rfl | rfl <;> cases tb m 1 <;> rfl
theorem mMach_eq (m k : Int) (m0 : 0 ≤ m) (m1 : m < 18446744073709551616) (hk : k = 0 ∨ k = 1 ∨ k = 3) : mMach m k = bits .or .u64 (bits .andNot .u64 m 6280) ((if tb m 3 then 128 else 0) + k * 2048) := by
  unfold mMach
  rw [and8 m m0 m1]
  rcases hk with rfl | rfl | rfl <;> cases tb m 3 <;> rfl
theorem mSup_bd (m k : Int) (m0 : 0 ≤ m) (m1 : m < 18446744073709551616) (hk : k = 0 ∨ k = 1) : 0 ≤ mSup m k ∧ mSup m k < 18446744073709551616 := by
  rw [mSup_eq m k m0 m1 hk]
  have h1 := andNot_bd m 290 m0 m1 (by decide) (by decide)
  refine or_bd _ _ h1.1 h1.2 ?_ ?_ <;> split <;> omega
theorem mMach_bd (m k : Int) (m0 : 0 ≤ m) (m1 : m < 18446744073709551616) (hk : k = 0 ∨ k = 1 ∨ k = 3) : 0 ≤ mMach m k ∧ mMach m k < 18446744073709551616 := by
  rw [mMach_eq m k m0 m1 hk]
  have h1 := andNot_bd m 6280 m0 m1 (by decide) (by decide)
  refine or_bd _ _ h1.1 h1.2 ?_ ?_ <;> split <;> omega
theorem mSup_2 (m k : Int) (m0 : 0 ≤ m) (m1 : m < 18446744073709551616) (hk : k = 0 ∨ k = 1) : bits .and .u64 (mSup m k) 2 = 0 := by
  have hb := mSup_bd m k m0 m1 hk
  rw [and2 _ hb.1 hb.2, mSup_eq m k m0 m1 hk]
  have h1 := andNot_bd m 290 m0 m1 (by decide) (by decide)
  rw [tb_or _ _ 1 h1.1 h1.2 (by split <;> omega) (by split <;> omega), tb_andNot m 290 1 (by omega) m0 m1 (by decide) (by decide)]
  have e1 : tb 290 1 = true := by decide
  rw [e1]
  rcases hk with rfl | rfl <;> cases tb m 1 <;> rfl
theorem mMach_8 (m k : Int) (m0 : 0 ≤ m) (m1 : m < 18446744073709551616) (hk : k = 0 ∨ k = 1 ∨ k = 3) : bits .and .u64 (mMach m k) 8 = 0 := by
  have hb := mMach_bd m k m0 m1 hk
  rw [and8 _ hb.1 hb.2, mMach_eq m k m0 m1 hk]
  have h1 := andNot_bd m 6280 m0 m1 (by decide) (by decide)
  rw [tb_or _ _ 3 h1.1 h1.2 (by split <;> omega) (by split <;> omega), tb_andNot m 6280 3 (by omega) m0 m1 (by decide) (by decide)]
  have e1 : tb 6280 3 = true := by decide
  rw [e1]
  rcases hk with rfl | rfl | rfl <;> cases tb m 3 <;> rfl
theorem sup_k {c : St} {mode cause : Int} (h : sup c mode cause) : known mode = 0 ∨ known mode = 1 := by
  have := known_cases mode
  have := h.1
  omega
theorem eSup_inv {c : St} (hI : GI c) {k pc cause tval : Int} (hk : k = 0 ∨ k = 1) (p0 : 0 ≤ pc) (p1 : pc < 18446744073709551616) (c0 : 0 ≤ cause) (c1 : cause < 18446744073709551616) (t0 : 0 ≤ tval) (t1 : tval < 18446744073709551616) : GI (eSup c k pc cause tval) := by
  obtain ⟨m0, m1⟩ := hI.r 0 (by omega)
  have h1 := andNot_bd (c 0) 290 m0 m1 (by decide) (by decide)
  have h2 := mSup_bd (c 0) k m0 m1 hk
  exact ((((hI.upd 15 (by omega) (by omega) (by omega)).upd 16 (by omega) c0 c1).upd 17 (by omega) t0 t1).upd 0 (by omega) h1.1 h1.2).upd 0 (by omega) h2.1 h2.2
theorem eMach_inv {c : St} (hI : GI c) {k pc cause tval : Int} (hk : k = 0 ∨ k = 1 ∨ k = 3) (p0 : 0 ≤ pc) (p1 : pc < 18446744073709551616) (c0 : 0 ≤ cause) (c1 : cause < 18446744073709551616) (t0 : 0 ≤ tval) (t1 : tval < 18446744073709551616) : GI (eMach c k pc cause tval) := by
  obtain ⟨m0, m1⟩ := hI.r 0 (by omega)
  have h1 := andNot_bd (c 0) 6280 m0 m1 (by decide) (by decide)
  have h2 := mMach_bd (c 0) k m0 m1 hk
  exact ((((hI.upd 6 (by omega) (by omega) (by omega)).upd 7 (by omega) c0 c1).upd 8 (by omega) t0 t1).upd 0 (by omega) h1.1 h1.2).upd 0 (by omega) h2.1 h2.2
theorem bit_zero (x : Int) (n : Nat) (x0 : 0 ≤ x) : x / 2 ^ n % 2 = ((tb x n).toNat : Int) := by
  obtain ⟨a, rfl⟩ := Int.eq_ofNat_of_zero_le x0
  unfold tb
  rw [Int.toNat_natCast, Nat.testBit_eq_decide_div_mod_eq]
  have e : ((a : Int) / 2 ^ n % 2) = ((a / 2 ^ n % 2 : Nat) : Int) := by simp
  rw [e]
  have h2 : a / 2 ^ n % 2 = 0 ∨ a / 2 ^ n % 2 = 1 := by omega
  rcases h2 with h | h <;> rw [h] <;> rfl
/-- What is told in the kept half is not delegated. -/
theorem kept_not {p d : Int} (p0 : 0 ≤ p) (p1 : p < 18446744073709551616) (d0 : 0 ≤ d) (d1 : d < 18446744073709551616) {n : Nat} (h : firstIn (bits .andNot .u64 p d) = some n) : n < 12 ∧ d / 2 ^ n % 2 = 0 := by
  unfold firstIn at h
  have h1 := List.find?_some h
  have h2 := List.mem_of_find?_eq_some h
  have hn : n < 12 := by
    simp only [List.mem_cons, List.mem_nil_iff, or_false] at h2
    omega
  have hb := andNot_bd p d p0 p1 d0 d1
  rw [decide_eq_true_eq, bit_zero _ n hb.1, tb_andNot p d n (by omega) p0 p1 d0 d1] at h1
  refine ⟨hn, ?_⟩
  rw [bit_zero d n d0]
  cases ht : tb d n with
  | false => rfl
  | true => rw [ht] at h1; cases tb p n <;> simp at h1
/-- An argument of registers. -/
def ks38 : List (Option IntKind) := (List.range 38).map fun i => .some (gk i)
theorem fits_gl {cs : Array Value} (h : Fits ks38 cs.toList) : ∃ c : St, GI c ∧ cs = (gl c).toArray := by
  have hlen := h.len
  have hk : ∀ i, i < 38 → ks38[i]? = some (some (gk i)) := fun i hi => by
    unfold ks38
    rw [List.getElem?_map, List.getElem?_range hi]; rfl
  have key : ∀ i, i < 38 → ∃ x, cs.toList[i]? = some (.int (gk i) x) ∧ (Lit.int (gk i) x).wf = true := fun i hi => by
    obtain ⟨v, hv, x, rfl, hw⟩ := h.get (hk i hi)
    exact ⟨x, hv, hw⟩
  let c : St := fun i => match cs.toList[i]? with | some (.int _ x) => x | _ => 0
  have hc : ∀ i, i < 38 → cs.toList[i]? = some (.int (gk i) (c i)) ∧ (Lit.int (gk i) (c i)).wf = true := fun i hi => by
    obtain ⟨x, hx, hw⟩ := key i hi
    have : c i = x := by show (match cs.toList[i]? with | some (.int _ x) => x | _ => 0) = x; rw [hx]
    rw [this]; exact ⟨hx, hw⟩
  refine ⟨c, ⟨fun i hi => ?_, fun i h2 h3 => ?_⟩, ?_⟩
  · by_cases h38 : i < 38
    · have := (hc i h38).2
      rw [show gk i = .u64 from by unfold gk; rw [if_neg hi]] at this
      exact b64' this
    · have : c i = 0 := by
        show (match cs.toList[i]? with | some (.int _ x) => x | _ => 0) = 0
        rw [List.getElem?_eq_none (by rw [hlen]; show (ks38).length ≤ i; unfold ks38; simp; omega)]
      rw [this]; decide
  · have := (hc i (by omega)).2
    rw [show gk i = .u8 from by unfold gk; rw [if_pos ⟨h2, h3⟩]] at this
    simp [Lit.wf, IntKind.min, IntKind.max, IntKind.signed, IntKind.bits] at this
    omega
  · apply Array.toList_inj.1
    apply List.ext_getElem?
    intro i
    rw [gl_get]
    by_cases h38 : i < 38
    · rw [if_pos h38, (hc i h38).1]; rfl
    · rw [if_neg h38, List.getElem?_eq_none (by rw [hlen]; unfold ks38; simp; omega)]
end Go.Proofs.Ytijhlbkhcpkkdaa
