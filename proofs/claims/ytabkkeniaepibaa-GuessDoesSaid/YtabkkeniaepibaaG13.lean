/- Layer 18, the reference: rowOf, counterOf. -/
import Derived.Test.YtabkkeniaepibaaG12
import Derived.Test.YtabkkeniaepibaaBits2
namespace Go.Proofs.Ytabkkeniaepibaa
open Go.RowKit

section
variable {w0 w : World} {L : List HP} {b : Nat} {c : St}
theorem Heap.rgo (h : Heap w0 w (HP.rg b c :: L)) : ∃ g1 o1 c1 g2 o2 c2 A3 c3 g4 o4 c4, GI c ∧ Heap w0 w (HP.blk b #[.slice (some ⟨g1, o1, none⟩) 16 c1, .slice (some ⟨g2, o2, none⟩) 64 c2, .slice A3 (c 116).toNat c3, .slice (some ⟨g4, o4, none⟩) 6 c4] 61 :: HP.slw (.slice (some ⟨g1, o1, none⟩) 16 c1) 3 16 (rws c) :: HP.slw (.slice (some ⟨g2, o2, none⟩) 64 c2) 1 64 (cts c) :: HP.slw (.slice A3 (c 116).toNat c3) 1 (c 116).toNat (sks c) :: HP.sl (.slice (some ⟨g4, o4, none⟩) 6 c4) 1 6 (hts c) :: L) := by
  obtain ⟨⟨v1, v2, v3, v4⟩, hI, hh⟩ := Heap.rg.1 h
  simp only at hh
  obtain ⟨g1, o1, c1, rfl, _⟩ := Sl.addr hh.f2.slw (by omega)
  obtain ⟨g2, o2, c2, rfl, _⟩ := Sl.addr hh.f3.slw (by omega)
  obtain ⟨A3, c3, rfl, _⟩ := hh.f4.slw.parts
  obtain ⟨g4, o4, c4, rfl, _⟩ := Sl.addr hh.f5.sl (by omega)
  exact ⟨g1, o1, c1, g2, o2, c2, A3, c3, g4, o4, c4, hI, hh⟩
end
section
variable {w0 w : World} {L : List HP} {b g1 o1 c1 g2 o2 c2 c3 g4 o4 c4 : Nat} {A3 : Option Addr} {c : St}
theorem Heap.rgc (hI : GI c) (h : Heap w0 w (HP.blk b #[.slice (some ⟨g1, o1, none⟩) 16 c1, .slice (some ⟨g2, o2, none⟩) 64 c2, .slice A3 (c 116).toNat c3, .slice (some ⟨g4, o4, none⟩) 6 c4] 61 :: HP.slw (.slice (some ⟨g1, o1, none⟩) 16 c1) 3 16 (rws c) :: HP.slw (.slice (some ⟨g2, o2, none⟩) 64 c2) 1 64 (cts c) :: HP.slw (.slice A3 (c 116).toNat c3) 1 (c 116).toNat (sks c) :: HP.sl (.slice (some ⟨g4, o4, none⟩) 6 c4) 1 6 (hts c) :: L)) : Heap w0 w (HP.rg b c :: L) := Heap.rg.2 ⟨(_, _, _, _), hI, h⟩
theorem rowR_any (pc : Int) (p0 : 0 ≤ pc) (p1 : pc < 18446744073709551616) (w : World) : Calls Try.prog 26 #[.int .u64 pc] w fun r w' => r = .returned (.int .i64 (rowN pc)) ∧ w' = w := by
  have e1 : pc.tdiv 2 = pc / 2 := Int.tdiv_eq_ediv_of_nonneg p0
  have e2 : (pc / 2).tmod 16 = pc / 2 % 16 := Int.tmod_eq_emod_of_nonneg (by omega)
  have e3 : ((rowN pc : Nat) : Int) = pc / 2 % 16 := by unfold rowN; omega
  rw [e3]
  go_enter Try.func26, Try.ntmps26
  go_wp2
  go_ret
  exact ⟨rfl, rfl⟩
theorem hts_get (c : St) {k : Nat} (hk : k < 6) : (hts c)[k]? = some (.int .i64 (c 117 / 2 ^ k % 2)) := by
  have h : k = 0 ∨ k = 1 ∨ k = 2 ∨ k = 3 ∨ k = 4 ∨ k = 5 := by omega
  rcases h with rfl | rfl | rfl | rfl | rfl | rfl <;> simp [hts]
set_option maxRecDepth 100000 in
set_option maxHeartbeats 1000000 in
theorem ctrR_w {V4 : Value} (b3 : w.cell? ⟨b, 3, none⟩ = some V4) (hbl : b < w.heap.size) (hsl : Sl w 1 V4 6 (hts c)) (hh : 0 ≤ c 117 ∧ c 117 < 64) (pc : Int) (p0 : 0 ≤ pc) (p1 : pc < 18446744073709551616) :
    Calls Try.prog 27 #[.pointer (some ⟨b, 0, none⟩), .int .u64 pc] w fun r w' => r = .returned (.int .i64 (ctrN pc (c 117))) ∧ w' = w := by
  obtain ⟨g4, o4, c4, rfl, _⟩ := Sl.addr hsl (by omega)
  have e1 : pc.tdiv 2 = pc / 2 := Int.tdiv_eq_ediv_of_nonneg p0
  have e2 : (pc / 2).tmod 64 = pc / 2 % 64 := Int.tmod_eq_emod_of_nonneg (by omega)
  obtain ⟨n, hn⟩ : ∃ n : Nat, pc / 2 % 64 = n := ⟨(pc / 2 % 64).toNat, by omega⟩
  obtain ⟨x, hx⟩ : ∃ x : Nat, c 117 = x := ⟨(c 117).toNat, by omega⟩
  have hn64 : n < 64 := by omega
  have hx64 : x < 64 := by omega
  have hxor : ctrN pc (c 117) = n ^^^ x := by rw [ctrN_eq pc _ p0 p1 hh.1 hh.2, hn, hx]; simp
  have hlt := ctrN_lt pc (c 117)
  rw [hxor] at hlt ⊢
  have hcell : ∀ k, k < 6 → g4 < w.heap.size ∧ w.cell? ⟨g4, o4 + k, none⟩ = some (.int .i64 (((x / 2 ^ k % 2 : Nat)) : Int)) := by
    intro k hk
    obtain ⟨q1, q2, _⟩ := hsl.at_ (j := k) (by omega)
    rw [hts_get c hk, hx] at q2
    refine ⟨q1, q2.trans ?_⟩
    norm_cast
  have Hcell := hide hcell
  clear hcell hsl hh hxor
  clear hx
  go_enter Try.func27, Try.ntmps27
  go_wp2
  go_loopw [6, 7] (fun out i wr => ∃ k : Nat, i = .int .i64 ((k : Int) - 1) ∧ k ≤ 6 ∧ out = .int .i64 (((n ^^^ x) / 2 ^ k : Nat) : Int) ∧ wr = w) (fun _ i _ => (intOf i + 1).toNat)
  case atStart => exact ⟨6, rfl, Nat.le_refl _, by rw [Nat.div_eq_of_lt (by simpa using hlt)]; rfl, rfl⟩
  case round =>
    obtain ⟨k, rfl, hk, rfl, rfl⟩ := hrel
    cases k with
    | zero =>
      go_wp2
      go_ret
      simp
    | succ k =>
      obtain ⟨hgl, hc⟩ := unhide Hcell k (by omega)
      have hstep := xor_step n x k
      have hs1 : ((k + 1 : Nat) : Int) - 1 = (k : Int) := by omega
      rw [hs1]
      generalize (n ^^^ x) / 2 ^ (k + 1) = u at *
      have hlt2 : (n ^^^ x) / 2 ^ k < 64 := Nat.lt_of_le_of_lt (Nat.div_le_self _ _) hlt
      obtain ⟨v, hv⟩ : ∃ v, (n ^^^ x) / 2 ^ k = v := ⟨_, rfl⟩
      rw [hv] at hstep hlt2
      obtain ⟨nb, hnb⟩ : ∃ nb, n / 2 ^ k % 2 = nb := ⟨_, rfl⟩
      have hnb2 : nb < 2 := by rw [← hnb]; exact Nat.mod_lt _ (by decide)
      have e5 : bits .and .i64 ((n : Int) / 2 ^ k) 1 = (nb : Int) := by
        rw [← hnb, ← and64_one]
        push_cast
        rfl
      rw [hnb] at hstep
      clear hnb
      have Hv := hide hv
      clear hv
      by_cases q : x / 2 ^ k % 2 = 1
      · rw [if_pos q] at hstep
        rw [q] at hc
        clear q
        go_wp2
        refine ⟨⟨k, rfl, by omega, by rw [unhide Hv]; congr 1; omega, trivial⟩, by simp [intOf]⟩
      · rw [if_neg q] at hstep
        have q : x / 2 ^ k % 2 = 0 := by omega
        rw [q] at hc
        clear q
        go_wp2
        refine ⟨⟨k, rfl, by omega, by rw [unhide Hv]; congr 1; omega, trivial⟩, by simp [intOf]⟩
theorem ctrR_any (h : Heap w0 w (HP.blk b #[.slice (some ⟨g1, o1, none⟩) 16 c1, .slice (some ⟨g2, o2, none⟩) 64 c2, .slice A3 (c 116).toNat c3, .slice (some ⟨g4, o4, none⟩) 6 c4] 61 :: HP.slw (.slice (some ⟨g1, o1, none⟩) 16 c1) 3 16 (rws c) :: HP.slw (.slice (some ⟨g2, o2, none⟩) 64 c2) 1 64 (cts c) :: HP.slw (.slice A3 (c 116).toNat c3) 1 (c 116).toNat (sks c) :: HP.sl (.slice (some ⟨g4, o4, none⟩) 6 c4) 1 6 (hts c) :: L)) (hI : GI c) (pc : Int) (p0 : 0 ≤ pc) (p1 : pc < 18446744073709551616) :
    Calls Try.prog 27 #[.pointer (some ⟨b, 0, none⟩), .int .u64 pc] w fun r w' => r = .returned (.int .i64 (ctrN pc (c 117))) ∧ w' = w :=
  ctrR_w (cells4f h.heap).2.2.2.1 (lt_of_heap' h.heap) h.f5.sl hI.hist pc p0 p1
theorem rg_mk {V1 V2 V4 : Value} {xs : List Value} {d cR cC cS : St} (hd : GI d) (eR : rws cR = rws d) (eC : cts cC = cts d) (e116 : cS 116 = d 116) (eS : sks cS = sks d) (eH : xs = hts d)
    (h : Heap w0 w (HP.blk b #[V1, V2, .slice A3 (cS 116).toNat c3, V4] 61 :: HP.slw V1 3 16 (rws cR) :: HP.slw V2 1 64 (cts cC) :: HP.slw (.slice A3 (cS 116).toNat c3) 1 (cS 116).toNat (sks cS) :: HP.sl V4 1 6 xs :: L)) : Heap w0 w (HP.rg b d :: L) := by
  rw [eR, eC, eS, eH, e116] at h
  exact Heap.rg.2 ⟨(_, _, _, _), hd, h⟩
end
end Go.Proofs.Ytabkkeniaepibaa
