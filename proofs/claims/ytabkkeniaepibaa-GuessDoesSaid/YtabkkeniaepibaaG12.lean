/- Layer 18, the reference: its state, and what its parts are behind each call. -/
import Derived.Test.YtabkkeniaepibaaG7
import Derived.Test.YtabkkeniaepibaaTools2
namespace Go.Proofs.Ytabkkeniaepibaa
open Go.RowKit

def rws (c : St) : List Value := (List.range 48).map (gv c)
def cts (c : St) : List Value := (List.range 64).map fun i => .int .i64 (c (48 + i))
def sks (c : St) : List Value := (List.range (c 116).toNat).map fun i => .int .u64 (c (112 + i))
def hts (c : St) : List Value := [.int .i64 (c 117 % 2), .int .i64 (c 117 / 2 % 2), .int .i64 (c 117 / 4 % 2), .int .i64 (c 117 / 8 % 2), .int .i64 (c 117 / 16 % 2), .int .i64 (c 117 / 32 % 2)]
theorem rws_get (c : St) (i : Nat) : (rws c)[i]? = if i < 48 then some (gv c i) else none := by
  unfold rws; rw [List.getElem?_map]; by_cases h : i < 48 <;> simp [h]
theorem rws_len (c : St) : (rws c).length = 48 := by simp [rws]
theorem rws_set (c : St) (i : Nat) (x : Int) : (rws c).set i (.int (gk i) x) = rws (upd c i x) := by
  apply List.ext_getElem?
  intro j
  rw [List.getElem?_set, rws_get, rws_get, rws_len]
  unfold gv upd
  by_cases h : i = j
  · subst h; simp
  · have h' : ¬ j = i := fun e => h e.symm
    simp [h, h']
theorem rws_congr {c d : St} (h : ∀ i, i < 48 → c i = d i) : rws c = rws d := by
  apply List.ext_getElem?
  intro j
  rw [rws_get, rws_get]
  by_cases hj : j < 48
  · rw [if_pos hj, if_pos hj, gv, gv, h j hj]
  · rw [if_neg hj, if_neg hj]
theorem rws_row (c : St) {n : Nat} (hn : n < 16) (pc t k : Int) : setL (rws c) (n * 3) [.int .u64 pc, .int .u64 t, .int .i64 k] = rws (setRow c n pc t k) := by
  obtain ⟨k0, k1, k2⟩ := gk_row hn
  unfold setRow
  rw [← rws_set, ← rws_set, ← rws_set, k0, k1, k2]
  rfl
theorem cts_get (c : St) (i : Nat) : (cts c)[i]? = if i < 64 then some (.int .i64 (c (48 + i))) else none := by
  unfold cts; rw [List.getElem?_map]; by_cases h : i < 64 <;> simp [h]
theorem cts_len (c : St) : (cts c).length = 64 := by simp [cts]
theorem cts_congr {c d : St} (h : ∀ i, i < 64 → c (48 + i) = d (48 + i)) : cts c = cts d := by
  apply List.ext_getElem?
  intro j
  rw [cts_get, cts_get]
  by_cases hj : j < 64
  · rw [if_pos hj, if_pos hj, h j hj]
  · rw [if_neg hj, if_neg hj]
theorem cts_set (c : St) (i : Nat) (x : Int) : (cts c).set i (.int .i64 x) = cts (upd c (48 + i) x) := by
  apply List.ext_getElem?
  intro j
  rw [List.getElem?_set, cts_get, cts_get, cts_len]
  unfold upd
  by_cases h : i = j
  · subst h; simp
  · have h' : ¬ j = i := fun e => h e.symm
    simp [h, h']
theorem sks_get (c : St) (i : Nat) : (sks c)[i]? = if i < (c 116).toNat then some (.int .u64 (c (112 + i))) else none := by
  unfold sks; rw [List.getElem?_map]; by_cases h : i < (c 116).toNat <;> simp [h]
theorem sks_len (c : St) : (sks c).length = (c 116).toNat := by simp [sks]
theorem sks_congr {c d : St} (hI : GI c) (h : ∀ i, 112 ≤ i → i < 117 → c i = d i) : sks c = sks d := by
  have hz := hI.size
  apply List.ext_getElem?
  intro j
  rw [sks_get, sks_get, ← h 116 (by omega) (by omega)]
  by_cases hj : j < (c 116).toNat
  · rw [if_pos hj, if_pos hj, h _ (by omega) (by omega)]
  · rw [if_neg hj, if_neg hj]
theorem size5 {z : Int} (h : 0 ≤ z ∧ z ≤ 4) : z = 0 ∨ z = 1 ∨ z = 2 ∨ z = 3 ∨ z = 4 := by omega
theorem sks_push {c : St} (hI : GI c) (v : Int) : sks (pushS c v) = if c 116 = 4 then (sks c ++ [Value.int .u64 v]).drop 1 else sks c ++ [Value.int .u64 v] := by
  rcases size5 hI.size with h | h | h | h | h <;> simp [sks, pushS, upd, shift, h, List.range_succ]
theorem sks_pop {c : St} (hI : GI c) (h0 : c 116 ≠ 0) : sks (popS c) = (sks c).take (c 116 - 1).toNat := by
  rcases size5 hI.size with h | h | h | h | h
  · exact absurd h h0
  all_goals simp [sks, popS, upd, h, List.range_succ]
theorem sks_back (c : St) (m : Nat → Int) (sz hs : Int) : sks (backS c m sz hs) = (List.range (clamp sz).toNat).map fun i => .int .u64 (m i) := by
  have hz := clamp_bd sz
  apply List.ext_getElem?
  intro j
  have e : backS c m sz hs 116 = clamp sz := rfl
  rw [sks_get, e, List.getElem?_map]
  by_cases hj : j < (clamp sz).toNat
  · rw [if_pos hj, List.getElem?_range hj]
    unfold backS
    rw [if_neg (by omega), if_neg (by omega), if_pos (by omega), if_pos (by omega), show 112 + j - 112 = j by omega]
    rfl
  · rw [if_neg hj, List.getElem?_eq_none (by simpa using hj)]
    rfl
theorem hts_congr {c d : St} (h : c 117 = d 117) : hts c = hts d := by unfold hts; rw [h]
theorem hts_step {c d : St} {bit : Int} (hI : GI c) (hb : 0 ≤ bit ∧ bit ≤ 1) (h : d 117 = c 117 * 2 % 64 + bit) : hts d = .int .i64 bit :: (hts c).take 5 := by
  have hh := hI.hist
  unfold hts
  rw [h]
  generalize c 117 = x at *
  rw [show (x * 2 % 64 + bit) % 2 = bit by omega, show (x * 2 % 64 + bit) / 2 % 2 = x % 2 by omega, show (x * 2 % 64 + bit) / 4 % 2 = x / 2 % 2 by omega, show (x * 2 % 64 + bit) / 8 % 2 = x / 4 % 2 by omega,
    show (x * 2 % 64 + bit) / 16 % 2 = x / 8 % 2 by omega, show (x * 2 % 64 + bit) / 32 % 2 = x / 16 % 2 by omega]
  rfl
theorem xor_step (n h k : Nat) : (n ^^^ h) / 2 ^ k = 2 * ((n ^^^ h) / 2 ^ (k + 1)) + (if h / 2 ^ k % 2 = 1 then 1 - n / 2 ^ k % 2 else n / 2 ^ k % 2) := by
  have e1 : (n ^^^ h) / 2 ^ k = (n / 2 ^ k) ^^^ (h / 2 ^ k) := by
    rw [← Nat.shiftRight_eq_div_pow, ← Nat.shiftRight_eq_div_pow, ← Nat.shiftRight_eq_div_pow, Nat.shiftRight_xor_distrib]
  have e2 : ((n / 2 ^ k) ^^^ (h / 2 ^ k)) % 2 = (n / 2 ^ k + h / 2 ^ k) % 2 := by
    have e4 : ((n / 2 ^ k) ^^^ (h / 2 ^ k)) % 2 = (n / 2 ^ k % 2) ^^^ (h / 2 ^ k % 2) := Nat.xor_mod_two_pow (n := 1)
    rw [e4, Nat.add_mod]
    rcases Nat.mod_two_eq_zero_or_one (n / 2 ^ k) with h1 | h1 <;> rcases Nat.mod_two_eq_zero_or_one (h / 2 ^ k) with h2 | h2 <;> rw [h1, h2] <;> rfl
  have e3 : (n ^^^ h) / 2 ^ (k + 1) = (n ^^^ h) / 2 ^ k / 2 := by rw [Nat.pow_succ, Nat.div_div_eq_div_mul]
  rw [← e1] at e2
  rw [e3]
  split <;> omega
theorem ctrN_eq (pc h : Int) (p0 : 0 ≤ pc) (p1 : pc < 18446744073709551616) (h0 : 0 ≤ h) (h1 : h < 64) : ctrN pc h = (pc / 2 % 64).toNat ^^^ h.toNat := by
  unfold ctrN
  rw [u64_xor (pc / 2) h (by omega) (by omega) h0 (by omega)]
  have e : ((pc / 2).toNat ^^^ h.toNat) % 64 = ((pc / 2).toNat % 64) ^^^ (h.toNat % 64) := Nat.xor_mod_two_pow (n := 6)
  have e2 : (pc / 2 % 64).toNat = (pc / 2).toNat % 64 := by omega
  have e3 : h.toNat % 64 = h.toNat := by omega
  rw [e3] at e
  rw [e2, ← e]
  omega
def HP.rg (b : Nat) (c : St) : HP := HP.any fun v : Value × Value × Value × Value => HP.und (GI c) (((((HP.blk b #[v.1, v.2.1, v.2.2.1, v.2.2.2] 61).star (HP.slw v.1 3 16 (rws c))).star (HP.slw v.2.1 1 64 (cts c))).star (HP.slw v.2.2.1 1 (c 116).toNat (sks c))).star (HP.sl v.2.2.2 1 6 (hts c)))
section
variable {w0 w : World} {L : List HP} {b : Nat} {c : St}
theorem Heap.rg : Heap w0 w (HP.rg b c :: L) ↔ ∃ v : Value × Value × Value × Value, GI c ∧ Heap w0 w (HP.blk b #[v.1, v.2.1, v.2.2.1, v.2.2.2] 61 :: HP.slw v.1 3 16 (rws c) :: HP.slw v.2.1 1 64 (cts c) :: HP.slw v.2.2.1 1 (c 116).toNat (sks c) :: HP.sl v.2.2.2 1 6 (hts c) :: L) := by
  simp only [HP.rg, Heap.any, Heap.und, Heap.star]
end
end Go.Proofs.Ytabkkeniaepibaa
