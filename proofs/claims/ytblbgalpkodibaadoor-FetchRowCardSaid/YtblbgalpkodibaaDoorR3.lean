/- Layer 4: the document's immediates. -/
import Derived.Test.YtblbgalpkodibaaDoorR2
import Derived.Deep.QuietTactic
import Derived.BigQuiet
namespace Go.Proofs.YtblbgalpkodibaaDoor
open Go.RowKit

/-- What an immediate's loop has gathered: the bits, the highest place. -/
def ist (h : Nat) (l1 l2 : List Nat) : Nat → Nat × Nat
  | 0 => (0, 0)
  | j + 1 => (((ist h l1 l2 j).1 + and32 (h / 2 ^ l1.getD j 0) 1 * 2 ^ l2.getD j 0 % 4294967296) % 4294967296, max (ist h l1 l2 j).2 (l2.getD j 0))
def sx (out high n0 : Nat) : Nat → Nat
  | 0 => out
  | j + 1 => (sx out high n0 j + high * 2 ^ (n0 + j) % 4294967296) % 4294967296
def immN (h : Nat) (l1 l2 : List Nat) (sg : Bool) : Nat :=
  bif sg then sx (ist h l1 l2 l2.length).1 (and32 ((ist h l1 l2 l2.length).1 / 2 ^ (ist h l1 l2 l2.length).2) 1) ((ist h l1 l2 l2.length).2 + 1) (32 - ((ist h l1 l2 l2.length).2 + 1)) else (ist h l1 l2 l2.length).1
theorem ist_top (h : Nat) (l1 l2 : List Nat) (hl : ∀ p ∈ l2, p < 32) : ∀ j, (ist h l1 l2 j).2 < 32
  | 0 => by simp [ist]
  | j + 1 => by
    have := ist_top h l1 l2 hl j
    simp only [ist]
    have h2 : l2.getD j 0 < 32 := by
      rw [List.getD_eq_getElem?_getD]
      cases h : l2[j]? with
      | none => simp
      | some p => exact hl p (List.mem_of_getElem? h)
    omega
set_option maxRecDepth 100000 in
set_option maxHeartbeats 2000000 in
theorem imm_any {w0 : World} (h : Nat) (hh : h < 65536) (v1 v2 : Value) (l1 l2 : List Nat) (sg : Bool) (hb1 : ∀ p ∈ l1, p < 16) (hb2 : ∀ p ∈ l2, p < 32) (hlen : l2.length ≤ l1.length ∧ l1.length < 64) (w : World) (hg : GN w0 w) (hA : IntsAt w v1 l1) (hB : IntsAt w v2 l2) :
    Calls Tryd.prog 51 #[.int .u16 h, v1, v2, .bool sg] w fun e w' => e = .returned (.int .u32 (immN h l1 l2 sg : Nat)) ∧ GN w w' := by
  have hA0 := hide hA
  have hB0 := hide hB
  obtain ⟨hlen, hl64⟩ := hlen
  obtain ⟨g1, o1, c1, rfl, hA1⟩ := hA
  obtain ⟨g2, o2, c2, rfl, hB1⟩ := hB
  go_enter Tryd.func51, Tryd.ntmps51
  go_wp2
  go_loopw [9, 10, 11] (fun o9 t10 i11 wr => ∃ j : Nat, i11 = .int .i64 j ∧ j ≤ l2.length ∧ o9 = .int .u32 ((ist h l1 l2 j).1 : Nat) ∧ t10 = .int .i64 ((ist h l1 l2 j).2 : Nat) ∧ GN w wr) (fun _ _ i11 _ => l2.length - (intOf i11).toNat)
  case atStart => exact ⟨0, rfl, Nat.zero_le _, rfl, rfl, GN.refl w⟩
  case round =>
    obtain ⟨j, rfl, hj, rfl, rfl, hg2⟩ := hrel
    by_cases hjl : j < l2.length
    · obtain ⟨p, hp⟩ : ∃ p, l2[j]? = some p := ⟨_, List.getElem?_eq_getElem hjl⟩
      obtain ⟨f, hf⟩ : ∃ f, l1[j]? = some f := ⟨_, List.getElem?_eq_getElem (by omega)⟩
      have hp32 := hb2 p (List.mem_of_getElem? hp)
      have hf16 := hb1 f (List.mem_of_getElem? hf)
      have cp := cell_GN hg2 (hB1 j p hp)
      have cf := cell_GN hg2 (hA1 j f hf)
      have hs : ist h l1 l2 (j + 1) = (((ist h l1 l2 j).1 + and32 (h / 2 ^ f) 1 * 2 ^ p % 4294967296) % 4294967296, max (ist h l1 l2 j).2 p) := by
        simp only [ist, List.getD_eq_getElem?_getD, hp, hf, Option.getD_some]
      have htop := ist_top h l1 l2 hb2 j
      generalize ist h l1 l2 j = st at *
      obtain ⟨out, top⟩ := st
      simp only at hs htop ⊢
      have Hs := hide hs
      clear hs hp hf hA1 hB1
      have k1 : (0 : Int) ≤ (p : Int) := by omega
      have k2 : (p : Int).toNat = p := by omega
      have k3 : (j : Int) < (l1.length : Int) := by omega
      have k4 : (j : Int) < (l2.length : Int) := by omega
      have k5 : min p 32 = p := by omega
      have k6 : j < 64 := by omega
      go_wp2
      go_quiet (exact Calls.quiet_of_same (bit_same _ _ hh hf16 _))
      have hg3 := GN.drewN hg2 nq
      have Hg3 := hide hg3
      replace cp := cell_GN ((GN.refl _).drewN nq) cp
      generalize World.drewN _ nq = wd at *
      clear hg2 hg3
      go_wp2
      all_goals
        refine ⟨⟨j + 1, by go_num, by omega, ?_, ?_, unhide Hg3⟩, by simp [intOf]; omega⟩
        · rw [unhide Hs]
          refine congrArg (Value.int .u32) ?_
          simp only [Int.natCast_emod, Int.natCast_add, Int.natCast_mul, Int.natCast_pow, Int.cast_ofNat_Int]
        · rw [unhide Hs]
          refine congrArg (Value.int .i64) ?_
          show _ = ((max top p : Nat) : Int)
          omega
    · obtain rfl : j = l2.length := by omega
      have htop := ist_top h l1 l2 hb2 l2.length
      obtain ⟨pn, hpn⟩ : ∃ pn, immN h l1 l2 sg = pn := ⟨_, rfl⟩
      have Hpq := hide hpn
      unfold immN at hpn
      have Hpn := hide hpn
      clear hpn hA1 hB1
      generalize ist h l1 l2 l2.length = st at *
      obtain ⟨out, top⟩ := st
      simp only at htop Hpn ⊢
      cases sg with
      | false =>
        go_wp2
        go_ret
        exact ⟨by rw [unhide Hpq, ← unhide Hpn]; rfl, hg2⟩
      | true =>
        have eb := and32_cast (out / 2 ^ top) 1
        rw [Int.natCast_ediv, Int.natCast_pow] at eb
        replace eb : bits .and .u32 ((out : Int) / 2 ^ top) 1 = _ := eb.symm
        have k1 : min top 32 = top := by omega
        have k2 : (top : Int).toNat = top := by omega
        have k3 : (0 : Int) ≤ (top : Int) := by omega
        have hX : sx out (and32 (out / 2 ^ top) 1) (top + 1) (32 - (top + 1)) = pn := unhide Hpn
        have HX := hide hX
        clear hX
        generalize and32 (out / 2 ^ top) 1 = X at *
        obtain ⟨lim, hlim⟩ : ∃ m, 32 - (top + 1) = m := ⟨_, rfl⟩
        have Hlim := hide hlim
        rw [hlim] at HX
        clear hlim
        go_wp2
        go_loopw [9, 13] (fun o9 i13 wr2 => ∃ m : Nat, i13 = .int .i64 ((top : Int) + 1 + m) ∧ m ≤ lim ∧ o9 = .int .u32 ((sx out X (top + 1) m : Nat) : Int) ∧ GN w wr2) (fun _ i13 _ => 32 - (intOf i13).toNat)
        case atStart => exact ⟨0, by simp, Nat.zero_le _, rfl, hg2⟩
        case round =>
          clear hg2
          obtain ⟨m, rfl, hm, rfl, hg2⟩ := hrel
          have hlim := unhide Hlim
          by_cases hml : m < lim
          · have q0 : (top : Int) + 1 + m < 32 := by omega
            obtain ⟨n, hn⟩ : ∃ n, top + 1 + m = n := ⟨_, rfl⟩
            have q1 : (top : Int) + 1 + m = (n : Int) := by omega
            have q2 : (n : Int).toNat = n := by omega
            have q3 : min n 32 = n := by omega
            have q4 : (0 : Int) ≤ (n : Int) := by omega
            have hs : sx out X (top + 1) (m + 1) = (sx out X (top + 1) m + X * 2 ^ n % 4294967296) % 4294967296 := by rw [← hn]; rfl
            have Hs := hide hs
            clear hs eb
            rw [q1] at q0 ⊢
            generalize sx out X (top + 1) m = S at *
            clear hlim
            go_wp2
            refine ⟨⟨m + 1, by go_num, by omega, ?_, hg2⟩, by simp [intOf]; omega⟩
            rw [unhide Hs]
            refine congrArg (Value.int .u32) ?_
            simp only [Int.natCast_emod, Int.natCast_add, Int.natCast_mul, Int.natCast_pow, Int.cast_ofNat_Int]
          · obtain rfl : lim = m := by omega
            have q0 : ¬ ((top : Int) + 1 + (lim : Nat) < 32) := by omega
            go_wp2
            go_ret
            exact ⟨by rw [unhide Hpq, ← unhide HX]; rfl, hg2⟩
end Go.Proofs.YtblbgalpkodibaaDoor
