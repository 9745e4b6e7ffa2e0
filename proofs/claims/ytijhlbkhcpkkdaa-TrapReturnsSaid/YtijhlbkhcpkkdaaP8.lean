/- Layer 13: bits of a trap and of a return. -/
import Derived.Test.YtijhlbkhcpkkdaaP7
namespace Go.Proofs.Ytijhlbkhcpkkdaa
open Go.RowKit

def bi (b : Bool) (x : Int) : Int := if b then x else 0
theorem and_lit (x : Int) (i : Nat) (y : Int) (hy : y = ((2 ^ i : Nat) : Int)) (x0 : 0 ≤ x) (x1 : x < 18446744073709551616) (hi : i < 64) : bits .and .u64 x y = bi (tb x i) y := by
  subst hy
  rw [and_bit x i x0 x1 hi]
  unfold bi
  cases tb x i <;> simp
theorem and6144 (x : Int) (x0 : 0 ≤ x) (x1 : x < 18446744073709551616) : bits .and .u64 x 6144 = bi (tb x 11) 2048 + bi (tb x 12) 4096 := by
  have h1 := and_lit x 11 2048 rfl x0 x1 (by omega)
  have h2 := and_lit x 12 4096 rfl x0 x1 (by omega)
  rw [u64_and x _ x0 x1 (by decide) (by decide)] at h1 h2 ⊢
  rw [show (6144 : Int).toNat = (2048 : Int).toNat ||| (4096 : Int).toNat from rfl, Nat.and_or_distrib_left]
  have e1 : x.toNat &&& (2048 : Int).toNat = (bi (tb x 11) 2048).toNat := by rw [← h1]; rfl
  have e2 : x.toNat &&& (4096 : Int).toNat = (bi (tb x 12) 4096).toNat := by rw [← h2]; rfl
  rw [e1, e2]
  cases tb x 11 <;> cases tb x 12 <;> rfl
theorem bi_bd (b : Bool) (x : Int) (h0 : 0 ≤ x) (h1 : x < 18446744073709551616) : 0 ≤ bi b x ∧ bi b x < 18446744073709551616 := by unfold bi; split <;> omega
theorem tb_mSup (m k : Int) (i : Nat) (hi : i < 64) (m0 : 0 ≤ m) (m1 : m < 18446744073709551616) (hk : k = 0 ∨ k = 1) : tb (mSup m k) i = ((tb m i && !tb 290 i) || tb (bi (tb m 1) 32 + k * 256) i) := by
  rw [mSup_eq m k m0 m1 hk]
  have h1 := andNot_bd m 290 m0 m1 (by decide) (by decide)
  rw [tb_or _ _ i h1.1 h1.2 (by split <;> omega) (by split <;> omega), tb_andNot m 290 i hi m0 m1 (by decide) (by decide)]
  rfl
theorem tb_mMach (m k : Int) (i : Nat) (hi : i < 64) (m0 : 0 ≤ m) (m1 : m < 18446744073709551616) (hk : k = 0 ∨ k = 1 ∨ k = 3) : tb (mMach m k) i = ((tb m i && !tb 6280 i) || tb (bi (tb m 3) 128 + k * 2048) i) := by
  rw [mMach_eq m k m0 m1 hk]
  have h1 := andNot_bd m 6280 m0 m1 (by decide) (by decide)
  rw [tb_or _ _ i h1.1 h1.2 (by split <;> omega) (by split <;> omega), tb_andNot m 6280 i hi m0 m1 (by decide) (by decide)]
  rfl
theorem sMode_mSup (m k : Int) (m0 : 0 ≤ m) (m1 : m < 18446744073709551616) (hk : k = 0 ∨ k = 1) : sMode (mSup m k) = k := by
  have hb := mSup_bd m k m0 m1 hk
  unfold sMode
  rw [and_lit _ 8 256 rfl hb.1 hb.2 (by omega), tb_mSup m k 8 (by omega) m0 m1 hk, show tb 290 8 = true from by decide]
  rcases hk with rfl | rfl <;> cases tb m 8 <;> cases tb m 1 <;> decide
theorem sRet_eq (d : Int) (d0 : 0 ≤ d) (d1 : d < 18446744073709551616) : sRet d = bits .or .u64 (bits .or .u64 (bits .andNot .u64 d 131330) (bi (tb d 5) 2)) 32 := by
  unfold sRet
  rw [and_lit d 5 32 rfl d0 d1 (by omega)]
  cases tb d 5 <;> rfl
theorem sRet_bd (d : Int) (d0 : 0 ≤ d) (d1 : d < 18446744073709551616) : 0 ≤ sRet d ∧ sRet d < 18446744073709551616 := by
  rw [sRet_eq d d0 d1]
  have h1 := andNot_bd d 131330 d0 d1 (by decide) (by decide)
  have h2 := bi_bd (tb d 5) 2 (by decide) (by decide)
  have h3 := or_bd _ _ h1.1 h1.2 h2.1 h2.2
  exact or_bd _ _ h3.1 h3.2 (by decide) (by decide)
theorem sRet_mSup (m k : Int) (m0 : 0 ≤ m) (m1 : m < 18446744073709551616) (hk : k = 0 ∨ k = 1) : bits .and .u64 (sRet (mSup m k)) 2 = bits .and .u64 m 2 := by
  have hb := mSup_bd m k m0 m1 hk
  have hs := sRet_bd _ hb.1 hb.2
  rw [and2 _ hs.1 hs.2, and2 m m0 m1, sRet_eq _ hb.1 hb.2]
  have h1 := andNot_bd (mSup m k) 131330 hb.1 hb.2 (by decide) (by decide)
  have h2 := bi_bd (tb (mSup m k) 5) 2 (by decide) (by decide)
  have h3 := or_bd _ _ h1.1 h1.2 h2.1 h2.2
  rw [tb_or _ _ 1 h3.1 h3.2 (by decide) (by decide), tb_or _ _ 1 h1.1 h1.2 h2.1 h2.2, tb_andNot _ 131330 1 (by omega) hb.1 hb.2 (by decide) (by decide), show tb 131330 1 = true from by decide,
    tb_mSup m k 5 (by omega) m0 m1 hk, show tb 290 5 = true from by decide]
  rcases hk with rfl | rfl <;> cases tb (mSup m 0) 1 <;> cases tb m 5 <;> cases tb m 1 <;> first | decide | (cases tb (mSup m 1) 1 <;> decide)
theorem mMode_mMach (m k : Int) (m0 : 0 ≤ m) (m1 : m < 18446744073709551616) (hk : k = 0 ∨ k = 1 ∨ k = 3) : mMode (mMach m k) = k := by
  have hb := mMach_bd m k m0 m1 hk
  unfold mMode
  rw [and6144 _ hb.1 hb.2, tb_mMach m k 11 (by omega) m0 m1 hk, tb_mMach m k 12 (by omega) m0 m1 hk, show tb 6280 11 = true from by decide, show tb 6280 12 = true from by decide]
  rcases hk with rfl | rfl | rfl <;> cases tb m 11 <;> cases tb m 12 <;> cases tb m 3 <;> decide
def mX (d : Int) : Int := bits .or .u64 (bits .or .u64 (bits .andNot .u64 d 6152) (bi (tb d 7) 8)) 128
theorem mRet_eq (d : Int) (d0 : 0 ≤ d) (d1 : d < 18446744073709551616) : mRet d = if mMode d = 3 then mX d else bits .andNot .u64 (mX d) 131072 := by
  unfold mRet mX
  rw [and_lit d 7 128 rfl d0 d1 (by omega)]
  cases tb d 7 <;> rfl
theorem mX_bd (d : Int) (d0 : 0 ≤ d) (d1 : d < 18446744073709551616) : 0 ≤ mX d ∧ mX d < 18446744073709551616 := by
  have h1 := andNot_bd d 6152 d0 d1 (by decide) (by decide)
  have h2 := bi_bd (tb d 7) 8 (by decide) (by decide)
  have h3 := or_bd _ _ h1.1 h1.2 h2.1 h2.2
  exact or_bd _ _ h3.1 h3.2 (by decide) (by decide)
theorem mRet_bd (d : Int) (d0 : 0 ≤ d) (d1 : d < 18446744073709551616) : 0 ≤ mRet d ∧ mRet d < 18446744073709551616 := by
  rw [mRet_eq d d0 d1]
  have := mX_bd d d0 d1
  split
  · exact this
  · exact andNot_bd _ _ this.1 this.2 (by decide) (by decide)
theorem tb_mX (d : Int) (d0 : 0 ≤ d) (d1 : d < 18446744073709551616) : tb (mX d) 3 = tb d 7 := by
  have h1 := andNot_bd d 6152 d0 d1 (by decide) (by decide)
  have h2 := bi_bd (tb d 7) 8 (by decide) (by decide)
  have h3 := or_bd _ _ h1.1 h1.2 h2.1 h2.2
  unfold mX
  rw [tb_or _ _ 3 h3.1 h3.2 (by decide) (by decide), tb_or _ _ 3 h1.1 h1.2 h2.1 h2.2, tb_andNot _ 6152 3 (by omega) d0 d1 (by decide) (by decide), show tb 6152 3 = true from by decide]
  cases tb d 3 <;> cases tb d 7 <;> decide
theorem mRet_mMach (m k : Int) (m0 : 0 ≤ m) (m1 : m < 18446744073709551616) (hk : k = 0 ∨ k = 1 ∨ k = 3) : bits .and .u64 (mRet (mMach m k)) 8 = bits .and .u64 m 8 := by
  have hb := mMach_bd m k m0 m1 hk
  have hr := mRet_bd _ hb.1 hb.2
  have hx := mX_bd _ hb.1 hb.2
  have hx3 := tb_mX _ hb.1 hb.2
  rw [and8 _ hr.1 hr.2, and8 m m0 m1]
  have e7 : tb (mMach m k) 7 = tb m 3 := by
    rw [tb_mMach m k 7 (by omega) m0 m1 hk, show tb 6280 7 = true from by decide]
    rcases hk with rfl | rfl | rfl <;> cases tb m 7 <;> cases tb m 3 <;> decide
  have e3 : tb (mRet (mMach m k)) 3 = tb m 3 := by
    rw [mRet_eq _ hb.1 hb.2]
    split
    · rw [hx3, e7]
    · rw [tb_andNot _ 131072 3 (by omega) hx.1 hx.2 (by decide) (by decide), hx3, e7, show tb 131072 3 = false from by decide]
      cases tb m 3 <;> rfl
  rw [e3]
end Go.Proofs.Ytijhlbkhcpkkdaa
