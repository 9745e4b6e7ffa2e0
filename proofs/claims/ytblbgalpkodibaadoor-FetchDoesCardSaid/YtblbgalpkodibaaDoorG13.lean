/- Layer 18, the reference: its state, and what its parts are behind each call. / Layer 18, the reference: rowOf, counterOf. -/
import Derived.Test.YtblbgalpkodibaaDoorG5
import Derived.Test.YtblbgalpkodibaaDoorTools
import Derived.Test.YtblbgalpkodibaaDoorBits
namespace Go.Proofs.YtblbgalpkodibaaDoor
open Go.RowKit

def rws (c : St) : List Value := (List.range 48).map (gv c)
def cts (c : St) : List Value := (List.range 64).map fun i => .int .i64 (c (48 + i))
def sks (c : St) : List Value := (List.range (c 116).toNat).map fun i => .int .u64 (c (112 + i))
def hts (c : St) : List Value := [.int .i64 (c 117 % 2), .int .i64 (c 117 / 2 % 2), .int .i64 (c 117 / 4 % 2), .int .i64 (c 117 / 8 % 2), .int .i64 (c 117 / 16 % 2), .int .i64 (c 117 / 32 % 2)]
theorem rws_get (c : St) (i : Nat) : (rws c)[i]? = if i < 48 then some (gv c i) else none := by
  unfold rws; rw [List.getElem?_map]; by_cases h : i < 48 <;> simp [h]
theorem rws_len (c : St) : (rws c).length = 48 := by simp [rws]
theorem rws_set (c : St) (i : Nat) (x : Int) : (rws c).set i (.int (gk i) x) = rws (upd c i x) := by
  apply List.ext_getElem?
  intro j
  rw [List.getElem?_set, rws_get, rws_get, rws_len]
  unfold gv upd
  by_cases h : i = j
  · subst h; simp
  · have h' : ¬ j = i := fun e => h e.symm
    simp [h, h']
theorem rws_congr {c d : St} (h : ∀ i, i < 48 → c i = d i) : rws c = rws d := by
  apply List.ext_getElem?
  intro j
  rw [rws_get, rws_get]
  by_cases hj : j < 48
  · rw [if_pos hj, if_pos hj, gv, gv, h j hj]
  · rw [if_neg hj, if_neg hj]
theorem rws_row (c : St) {n : Nat} (hn : n < 16) (pc t k : Int) : setL (rws c) (n * 3) [.int .u64 pc, .int .u64 t, .int .i64 k] = rws (setRow c n pc t k) := by
  obtain ⟨k0, k1, k2⟩ := gk_row hn
  unfold setRow
  rw [← rws_set, ← rws_set, ← rws_set, k0, k1, k2]
  rfl
theorem cts_get (c : St) (i : Nat) : (cts c)[i]? = if i < 64 then some (.int .i64 (c (48 + i))) else none := by
  unfold cts; rw [List.getElem?_map]; by_cases h : i < 64 <;> simp [h]
theorem cts_len (c : St) : (cts c).length = 64 := by simp [cts]
theorem cts_congr {c d : St} (h : ∀ i, i < 64 → c (48 + i) = d (48 + i)) : cts c = cts d := by
  apply List.ext_getElem?
  intro j
  rw [cts_get, cts_get]
  by_cases hj : j < 64
  · rw [if_pos hj, if_pos hj, h j hj]
  · rw [if_neg hj, if_neg hj]
theorem cts_set (c : St) (i : Nat) (x : Int) : (cts c).set i (.int .i64 x) = cts (upd c (48 + i) x) := by
  apply List.ext_getElem?
  intro j
  rw [List.getElem?_set, cts_get, cts_get, cts_len]
  unfold upd
  by_cases h : i = j
  · subst h; simp
  · have h' : ¬ j = i := fun e => h e.symm
    simp [h, h']
theorem sks_get (c : St) (i : Nat) : (sks c)[i]? = if i < (c 116).toNat then some (.int .u64 (c (112 + i))) else none := by
  unfold sks; rw [List.getElem?_map]; by_cases h : i < (c 116).toNat <;> simp [h]
theorem sks_len (c : St) : (sks c).length = (c 116).toNat := by simp [sks]
theorem sks_congr {c d : St} (hI : GI c) (h : ∀ i, 112 ≤ i → i < 117 → c i = d i) : sks c = sks d := by
  have hz := hI.size
  apply List.ext_getElem?
  intro j
  rw [sks_get, sks_get, ← h 116 (by omega) (by omega)]
  by_cases hj : j < (c 116).toNat
  · rw [if_pos hj, if_pos hj, h _ (by omega) (by omega)]
  · rw [if_neg hj, if_neg hj]
theorem size5 {z : Int} (h : 0 ≤ z ∧ z ≤ 4) : z = 0 ∨ z = 1 ∨ z = 2 ∨ z = 3 ∨ z = 4 := by omega
theorem sks_push {c : St} (hI : GI c) (v : Int) : sks (pushS c v) = if c 116 = 4 then (sks c ++ [Value.int .u64 v]).drop 1 else sks c ++ [Value.int .u64 v] := by
  rcases size5 hI.size with h | h | h | h | h <;> simp [sks, pushS, upd, shift, h, List.range_succ]
theorem sks_pop {c : St} (hI : GI c) (h0 : c 116 ≠ 0) : sks (popS c) = (sks c).take (c 116 - 1).toNat := by
  rcases size5 hI.size with h | h | h | h | h
  · exact absurd h h0
  all_goals simp [sks, popS, upd, h, List.range_succ]
theorem hts_congr {c d : St} (h : c 117 = d 117) : hts c = hts d := by unfold hts; rw [h]
theorem hts_step {c d : St} {bit : Int} (hI : GI c) (hb : 0 ≤ bit ∧ bit ≤ 1) (h : d 117 = c 117 * 2 % 64 + bit) : hts d = .int .i64 bit :: (hts c).take 5 := by
  have hh := hI.hist
  unfold hts
  rw [h]
  generalize c 117 = x at *
  rw [show (x * 2 % 64 + bit) % 2 = bit by omega, show (x * 2 % 64 + bit) / 2 % 2 = x % 2 by omega, show (x * 2 % 64 + bit) / 4 % 2 = x / 2 % 2 by omega, show (x * 2 % 64 + bit) / 8 % 2 = x / 4 % 2 by omega,
    show (x * 2 % 64 + bit) / 16 % 2 = x / 8 % 2 by omega, show (x * 2 % 64 + bit) / 32 % 2 = x / 16 % 2 by omega]
  rfl
theorem xor_step (n h k : Nat) : (n ^^^ h) / 2 ^ k = 2 * ((n ^^^ h) / 2 ^ (k + 1)) + (if h / 2 ^ k % 2 = 1 then 1 - n / 2 ^ k % 2 else n / 2 ^ k % 2) := by
  have e1 : (n ^^^ h) / 2 ^ k = (n / 2 ^ k) ^^^ (h / 2 ^ k) := by
    rw [← Nat.shiftRight_eq_div_pow, ← Nat.shiftRight_eq_div_pow, ← Nat.shiftRight_eq_div_pow, Nat.shiftRight_xor_distrib]
  have e2 : ((n / 2 ^ k) ^^^ (h / 2 ^ k)) % 2 = (n / 2 ^ k + h / 2 ^ k) % 2 := by
    have e4 : ((n / 2 ^ k) ^^^ (h / 2 ^ k)) % 2 = (n / 2 ^ k % 2) ^^^ (h / 2 ^ k % 2) := Nat.xor_mod_two_pow (n := 1)
    rw [e4, Nat.add_mod]
    rcases Nat.mod_two_eq_zero_or_one (n / 2 ^ k) with h1 | h1 <;> rcases Nat.mod_two_eq_zero_or_one (h / 2 ^ k) with h2 | h2 <;> rw [h1, h2] <;> rfl
  have e3 : (n ^^^ h) / 2 ^ (k + 1) = (n ^^^ h) / 2 ^ k / 2 := by rw [Nat.pow_succ, Nat.div_div_eq_div_mul]
  rw [← e1] at e2
  rw [e3]
  split <;> omega
theorem ctrN_eq (pc h : Int) (p0 : 0 ≤ pc) (p1 : pc < 18446744073709551616) (h0 : 0 ≤ h) (h1 : h < 64) : ctrN pc h = (pc / 2 % 64).toNat ^^^ h.toNat := by
  unfold ctrN
  rw [u64_xor (pc / 2) h (by omega) (by omega) h0 (by omega)]
  have e : ((pc / 2).toNat ^^^ h.toNat) % 64 = ((pc / 2).toNat % 64) ^^^ (h.toNat % 64) := Nat.xor_mod_two_pow (n := 6)
  have e2 : (pc / 2 % 64).toNat = (pc / 2).toNat % 64 := by omega
  have e3 : h.toNat % 64 = h.toNat := by omega
  rw [e3] at e
  rw [e2, ← e]
  omega
def HP.rg (b : Nat) (c : St) : HP := HP.any fun v : Value × Value × Value × Value => HP.und (GI c) (((((HP.blk b #[v.1, v.2.1, v.2.2.1, v.2.2.2] 87).star (HP.slw v.1 3 16 (rws c))).star (HP.slw v.2.1 1 64 (cts c))).star (HP.slw v.2.2.1 1 (c 116).toNat (sks c))).star (HP.sl v.2.2.2 1 6 (hts c)))
section
variable {w0 w : World} {L : List HP} {b : Nat} {c : St}
theorem Heap.rg : Heap w0 w (HP.rg b c :: L) ↔ ∃ v : Value × Value × Value × Value, GI c ∧ Heap w0 w (HP.blk b #[v.1, v.2.1, v.2.2.1, v.2.2.2] 87 :: HP.slw v.1 3 16 (rws c) :: HP.slw v.2.1 1 64 (cts c) :: HP.slw v.2.2.1 1 (c 116).toNat (sks c) :: HP.sl v.2.2.2 1 6 (hts c) :: L) := by
  simp only [HP.rg, Heap.any, Heap.und, Heap.star]
end
end Go.Proofs.YtblbgalpkodibaaDoor
namespace Go.Proofs.YtblbgalpkodibaaDoor
open Go.RowKit

section
variable {w0 w : World} {L : List HP} {b : Nat} {c : St}
theorem Heap.rgo (h : Heap w0 w (HP.rg b c :: L)) : ∃ g1 o1 c1 g2 o2 c2 A3 c3 g4 o4 c4, GI c ∧ Heap w0 w (HP.blk b #[.slice (some ⟨g1, o1, none⟩) 16 c1, .slice (some ⟨g2, o2, none⟩) 64 c2, .slice A3 (c 116).toNat c3, .slice (some ⟨g4, o4, none⟩) 6 c4] 87 :: HP.slw (.slice (some ⟨g1, o1, none⟩) 16 c1) 3 16 (rws c) :: HP.slw (.slice (some ⟨g2, o2, none⟩) 64 c2) 1 64 (cts c) :: HP.slw (.slice A3 (c 116).toNat c3) 1 (c 116).toNat (sks c) :: HP.sl (.slice (some ⟨g4, o4, none⟩) 6 c4) 1 6 (hts c) :: L) := by
  obtain ⟨⟨v1, v2, v3, v4⟩, hI, hh⟩ := Heap.rg.1 h
  simp only at hh
  obtain ⟨g1, o1, c1, rfl, _⟩ := Sl.addr hh.f2.slw (by omega)
  obtain ⟨g2, o2, c2, rfl, _⟩ := Sl.addr hh.f3.slw (by omega)
  obtain ⟨A3, c3, rfl, _⟩ := hh.f4.slw.parts
  obtain ⟨g4, o4, c4, rfl, _⟩ := Sl.addr hh.f5.sl (by omega)
  exact ⟨g1, o1, c1, g2, o2, c2, A3, c3, g4, o4, c4, hI, hh⟩
end
section
variable {w0 w : World} {L : List HP} {b g1 o1 c1 g2 o2 c2 c3 g4 o4 c4 : Nat} {A3 : Option Addr} {c : St}
theorem Heap.rgc (hI : GI c) (h : Heap w0 w (HP.blk b #[.slice (some ⟨g1, o1, none⟩) 16 c1, .slice (some ⟨g2, o2, none⟩) 64 c2, .slice A3 (c 116).toNat c3, .slice (some ⟨g4, o4, none⟩) 6 c4] 87 :: HP.slw (.slice (some ⟨g1, o1, none⟩) 16 c1) 3 16 (rws c) :: HP.slw (.slice (some ⟨g2, o2, none⟩) 64 c2) 1 64 (cts c) :: HP.slw (.slice A3 (c 116).toNat c3) 1 (c 116).toNat (sks c) :: HP.sl (.slice (some ⟨g4, o4, none⟩) 6 c4) 1 6 (hts c) :: L)) : Heap w0 w (HP.rg b c :: L) := Heap.rg.2 ⟨(_, _, _, _), hI, h⟩
theorem rowR_any (pc : Int) (p0 : 0 ≤ pc) (p1 : pc < 18446744073709551616) (w : World) : Calls Tryd.prog 42 #[.int .u64 pc] w fun r w' => r = .returned (.int .i64 (rowN pc)) ∧ w' = w := by
  have e1 : pc.tdiv 2 = pc / 2 := Int.tdiv_eq_ediv_of_nonneg p0
  have e2 : (pc / 2).tmod 16 = pc / 2 % 16 := Int.tmod_eq_emod_of_nonneg (by omega)
  have e3 : ((rowN pc : Nat) : Int) = pc / 2 % 16 := by unfold rowN; omega
  rw [e3]
  go_enter Tryd.func42, Tryd.ntmps42
  go_wp2
  go_ret
  exact ⟨rfl, rfl⟩
theorem hts_get (c : St) {k : Nat} (hk : k < 6) : (hts c)[k]? = some (.int .i64 (c 117 / 2 ^ k % 2)) := by
  have h : k = 0 ∨ k = 1 ∨ k = 2 ∨ k = 3 ∨ k = 4 ∨ k = 5 := by omega
  rcases h with rfl | rfl | rfl | rfl | rfl | rfl <;> simp [hts]
set_option maxRecDepth 100000 in
set_option maxHeartbeats 1000000 in
theorem ctrR_w {V4 : Value} (b3 : w.cell? ⟨b, 3, none⟩ = some V4) (hbl : b < w.heap.size) (hsl : Sl w 1 V4 6 (hts c)) (hh : 0 ≤ c 117 ∧ c 117 < 64) (pc : Int) (p0 : 0 ≤ pc) (p1 : pc < 18446744073709551616) :
    Calls Tryd.prog 43 #[.pointer (some ⟨b, 0, none⟩), .int .u64 pc] w fun r w' => r = .returned (.int .i64 (ctrN pc (c 117))) ∧ w' = w := by
  obtain ⟨g4, o4, c4, rfl, _⟩ := Sl.addr hsl (by omega)
  have e1 : pc.tdiv 2 = pc / 2 := Int.tdiv_eq_ediv_of_nonneg p0
  have e2 : (pc / 2).tmod 64 = pc / 2 % 64 := Int.tmod_eq_emod_of_nonneg (by omega)
  obtain ⟨n, hn⟩ : ∃ n : Nat, pc / 2 % 64 = n := ⟨(pc / 2 % 64).toNat, by omega⟩
  obtain ⟨x, hx⟩ : ∃ x : Nat, c 117 = x := ⟨(c 117).toNat, by omega⟩
  have hn64 : n < 64 := by omega
  have hx64 : x < 64 := by omega
  have hxor : ctrN pc (c 117) = n ^^^ x := by rw [ctrN_eq pc _ p0 p1 hh.1 hh.2, hn, hx]; simp
  have hlt := ctrN_lt pc (c 117)
  rw [hxor] at hlt ⊢
  have hcell : ∀ k, k < 6 → g4 < w.heap.size ∧ w.cell? ⟨g4, o4 + k, none⟩ = some (.int .i64 (((x / 2 ^ k % 2 : Nat)) : Int)) := by
    intro k hk
    obtain ⟨q1, q2, _⟩ := hsl.at_ (j := k) (by omega)
    rw [hts_get c hk, hx] at q2
    refine ⟨q1, q2.trans ?_⟩
    norm_cast
  have Hcell := hide hcell
  clear hcell hsl hh hxor
  clear hx
  go_enter Tryd.func43, Tryd.ntmps43
  go_wp2
  go_loopw [6, 7] (fun out i wr => ∃ k : Nat, i = .int .i64 ((k : Int) - 1) ∧ k ≤ 6 ∧ out = .int .i64 (((n ^^^ x) / 2 ^ k : Nat) : Int) ∧ wr = w) (fun _ i _ => (intOf i + 1).toNat)
  case atStart => exact ⟨6, rfl, Nat.le_refl _, by rw [Nat.div_eq_of_lt (by simpa using hlt)]; rfl, rfl⟩
  case round =>
    obtain ⟨k, rfl, hk, rfl, rfl⟩ := hrel
    cases k with
    | zero =>
      go_wp2
      go_ret
      simp
    | succ k =>
      obtain ⟨hgl, hc⟩ := unhide Hcell k (by omega)
      have hstep := xor_step n x k
      have hs1 : ((k + 1 : Nat) : Int) - 1 = (k : Int) := by omega
      rw [hs1]
      generalize (n ^^^ x) / 2 ^ (k + 1) = u at *
      have hlt2 : (n ^^^ x) / 2 ^ k < 64 := Nat.lt_of_le_of_lt (Nat.div_le_self _ _) hlt
      obtain ⟨v, hv⟩ : ∃ v, (n ^^^ x) / 2 ^ k = v := ⟨_, rfl⟩
      rw [hv] at hstep hlt2
      obtain ⟨nb, hnb⟩ : ∃ nb, n / 2 ^ k % 2 = nb := ⟨_, rfl⟩
      have hnb2 : nb < 2 := by rw [← hnb]; exact Nat.mod_lt _ (by decide)
      have e5 : bits .and .i64 ((n : Int) / 2 ^ k) 1 = (nb : Int) := by
        rw [← hnb, ← and64_one]
        push_cast
        rfl
      rw [hnb] at hstep
      clear hnb
      have Hv := hide hv
      clear hv
      by_cases q : x / 2 ^ k % 2 = 1
      · rw [if_pos q] at hstep
        rw [q] at hc
        clear q
        go_wp2
        refine ⟨⟨k, rfl, by omega, by rw [unhide Hv]; congr 1; omega, trivial⟩, by simp [intOf]⟩
      · rw [if_neg q] at hstep
        have q : x / 2 ^ k % 2 = 0 := by omega
        rw [q] at hc
        clear q
        go_wp2
        refine ⟨⟨k, rfl, by omega, by rw [unhide Hv]; congr 1; omega, trivial⟩, by simp [intOf]⟩
theorem ctrR_any (h : Heap w0 w (HP.blk b #[.slice (some ⟨g1, o1, none⟩) 16 c1, .slice (some ⟨g2, o2, none⟩) 64 c2, .slice A3 (c 116).toNat c3, .slice (some ⟨g4, o4, none⟩) 6 c4] 87 :: HP.slw (.slice (some ⟨g1, o1, none⟩) 16 c1) 3 16 (rws c) :: HP.slw (.slice (some ⟨g2, o2, none⟩) 64 c2) 1 64 (cts c) :: HP.slw (.slice A3 (c 116).toNat c3) 1 (c 116).toNat (sks c) :: HP.sl (.slice (some ⟨g4, o4, none⟩) 6 c4) 1 6 (hts c) :: L)) (hI : GI c) (pc : Int) (p0 : 0 ≤ pc) (p1 : pc < 18446744073709551616) :
    Calls Tryd.prog 43 #[.pointer (some ⟨b, 0, none⟩), .int .u64 pc] w fun r w' => r = .returned (.int .i64 (ctrN pc (c 117))) ∧ w' = w :=
  ctrR_w (cells4f h.heap).2.2.2.1 (lt_of_heap' h.heap) h.f5.sl hI.hist pc p0 p1
theorem rg_mk {V1 V2 V4 : Value} {xs : List Value} {d cR cC cS : St} (hd : GI d) (eR : rws cR = rws d) (eC : cts cC = cts d) (e116 : cS 116 = d 116) (eS : sks cS = sks d) (eH : xs = hts d)
    (h : Heap w0 w (HP.blk b #[V1, V2, .slice A3 (cS 116).toNat c3, V4] 87 :: HP.slw V1 3 16 (rws cR) :: HP.slw V2 1 64 (cts cC) :: HP.slw (.slice A3 (cS 116).toNat c3) 1 (cS 116).toNat (sks cS) :: HP.sl V4 1 6 xs :: L)) : Heap w0 w (HP.rg b d :: L) := by
  rw [eR, eC, eS, eH, e116] at h
  exact Heap.rg.2 ⟨(_, _, _, _), hd, h⟩
end
end Go.Proofs.YtblbgalpkodibaaDoor
