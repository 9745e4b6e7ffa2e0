/- Layer 3, the document's side: immediates: the walk. -/
import Derived.Test.YtopbdiekfhikmaaI1
import Derived.Test.YtopbdiekfhikmaaA1
namespace Go.Proofs.Ytopbdiekfhikmaa
open Go.RowKit
def immP (c : Int) (b : Nat) : Int := if c = 73 then immI b else if c = 83 then immS b else if c = 66 then immB b else if c = 85 then immU b else if c = 74 then immJ b else 0
theorem immF_of (F : ByteArray) (b : Nat) : immF F b = if hasF F 122 then (fd b 15 5 : Int) else if hasF F 104 then (fd b 20 6 : Int) else immP (letF F) b := by
  unfold immF immP letF
  cases hasF F 122
  · cases hasF F 104
    · cases hasF F 73
      · cases hasF F 83
        · cases hasF F 66
          · cases hasF F 85
            · cases hasF F 74 <;> simp
            · simp
          · simp
        · simp
      · simp
    · simp
  · simp
theorem immI_n {n b : Nat} (hn : n = nP b (pcN 73) (pcN 73).length) : (2048 ≤ n → immP 73 b = (n : Int) - 4096) ∧ (n < 2048 → immP 73 b = n) := by
  have e : immP 73 b = immI b := by unfold immP; simp
  rw [e]
  simp [nP, pcN] at hn
  unfold immI
  unfold fd at *
  constructor <;> intro h <;> (repeat' split) <;> omega
theorem immS_n {n b : Nat} (hn : n = nP b (pcN 83) (pcN 83).length) : (2048 ≤ n → immP 83 b = (n : Int) - 4096) ∧ (n < 2048 → immP 83 b = n) := by
  have e : immP 83 b = immS b := by unfold immP; simp
  rw [e]
  simp [nP, pcN] at hn
  unfold immS
  unfold fd at *
  constructor <;> intro h <;> (repeat' split) <;> omega
theorem immB_n {n b : Nat} (hn : n = nP b (pcN 66) (pcN 66).length) : (4096 ≤ n → immP 66 b = (n : Int) - 8192) ∧ (n < 4096 → immP 66 b = n) := by
  have e : immP 66 b = immB b := by unfold immP; simp
  rw [e]
  simp [nP, pcN] at hn
  unfold immB
  unfold fd at *
  constructor <;> intro h <;> (repeat' split) <;> omega
theorem immU_n {n b : Nat} (hn : n = nP b (pcN 85) (pcN 85).length) : (2147483648 ≤ n → immP 85 b = (n : Int) - 4294967296) ∧ (n < 2147483648 → immP 85 b = n) := by
  have e : immP 85 b = immU b := by unfold immP; simp
  rw [e]
  simp [nP, pcN] at hn
  unfold immU
  unfold fd at *
  constructor <;> intro h <;> (repeat' split) <;> omega
theorem immJ_n {n b : Nat} (hn : n = nP b (pcN 74) (pcN 74).length) : (1048576 ≤ n → immP 74 b = (n : Int) - 2097152) ∧ (n < 1048576 → immP 74 b = n) := by
  have e : immP 74 b = immJ b := by unfold immP; simp
  rw [e]
  simp [nP, pcN] at hn
  unfold immJ
  unfold fd at *
  constructor <;> intro h <;> (repeat' split) <;> omega
set_option maxRecDepth 1000000 in
set_option maxHeartbeats 8000000 in
theorem imm_any (F : ByteArray) (hF : F.size ≤ 1000) (wd : Bool) (b : Nat) (_hb : b < 4294967296) (w : World) : Calls Try.prog 45 #[.string F, .bool wd, .int .u32 b] w fun r w' => r = .returned (.int .i64 (immF F b)) ∧ GN w w' := by
  have H := hide (Heap.nil w)
  have e20 : bits .and .u32 ((b : Int) / 1048576) 63 = ((fd b 20 6 : Nat) : Int) := by
    rw [show (63 : Int) = ((63 : Nat) : Int) from rfl, show (b : Int) / 1048576 = ((b / 1048576 : Nat) : Int) by omega, ← and32_cast, show (63 : Nat) = (2 ^ 6 - 1) % 4294967296 by decide, and_mask32 _ _ (by decide)]
    rfl
  have e15 : bits .and .u32 ((b : Int) / 32768) 31 = ((fd b 15 5 : Nat) : Int) := by
    rw [show (31 : Int) = ((31 : Nat) : Int) from rfl, show (b : Int) / 32768 = ((b / 32768 : Nat) : Int) by omega, ← and32_cast, show (31 : Nat) = (2 ^ 5 - 1) % 4294967296 by decide, and_mask32 _ _ (by decide)]
    rfl
  have l20 : fd b 20 6 < 64 := fd_lt b 20 6
  have l15 : fd b 15 5 < 32 := fd_lt b 15 5
  have EE := hide (And.intro e20 (And.intro e15 (And.intro l20 l15)))
  clear e20 e15 l20 l15
  go_enter Try.func45, Try.ntmps45
  go_wp2_with fail
  refine (letter_any F hF _).mono ?_
  rintro r w1 ⟨rfl, rfl⟩
  go_wp2_with fail
  obtain ⟨c, hc⟩ : ∃ c, letF F = c := ⟨_, rfl⟩
  rw [hc]
  have HC := hide hc
  clear hc
  refine (pieces_w (unhide H) c).mono ?_
  rintro r w2 ⟨A, rfl, hA, h2⟩
  rw [pcs_len] at h2 hA ⊢
  have HA := hide hA
  have H2 := hide h2
  clear hA h2 H
  go_wp2
  refine loopI2 (c := c) (unhide HA) rfl _ _ _ _ _ _ _ _ _ _ _ _ _ _ _ _ _ _ _ _ _ _ _ _ _ _ _ _ _ _ _ _ _ _ _ _ _ _ (unhide H2) _ _ _ _ _ _ _ _ _ _ _ _ _ _ _ _ _ _ _ _ _ _ _ _ _ _ _ _ _ _ _ _ _ _ _ _ _ _ _ _ _ _ _ ?_
  clear H2 HA
  intro a' w3 hX
  obtain ⟨n, tp, ⟨hn, ht, hl, hJ⟩, hF⟩ := hX
  unfold FRI2 at hF
  obtain ⟨u14, hF⟩ := hF
  obtain ⟨u15, hF⟩ := hF
  obtain ⟨u16, hF⟩ := hF
  obtain ⟨u17, hF⟩ := hF
  obtain ⟨u18, hF⟩ := hF
  obtain ⟨u19, hF⟩ := hF
  obtain ⟨u20, hF⟩ := hF
  obtain ⟨u21, hF⟩ := hF
  obtain ⟨u22, hF⟩ := hF
  obtain ⟨u23, hF⟩ := hF
  obtain ⟨u24, hF⟩ := hF
  obtain ⟨u25, hF⟩ := hF
  obtain ⟨u26, hF⟩ := hF
  obtain ⟨u27, hF⟩ := hF
  obtain ⟨u28, hF⟩ := hF
  obtain ⟨u29, hF⟩ := hF
  obtain ⟨u30, hF⟩ := hF
  obtain ⟨u31, hF⟩ := hF
  obtain ⟨u32, hF⟩ := hF
  obtain ⟨u33, hF⟩ := hF
  obtain ⟨u34, hF⟩ := hF
  obtain ⟨u35, hF⟩ := hF
  obtain ⟨u36, hF⟩ := hF
  obtain ⟨u37, hF⟩ := hF
  obtain ⟨u38, hF⟩ := hF
  obtain ⟨u39, hF⟩ := hF
  obtain ⟨u40, hF⟩ := hF
  obtain ⟨u41, hF⟩ := hF
  obtain ⟨u42, hF⟩ := hF
  obtain ⟨u43, hF⟩ := hF
  obtain ⟨u44, hF⟩ := hF
  obtain ⟨u45, hF⟩ := hF
  obtain ⟨u46, hF⟩ := hF
  obtain ⟨u47, hF⟩ := hF
  obtain ⟨u48, hF⟩ := hF
  obtain ⟨u49, hF⟩ := hF
  obtain ⟨u50, hF⟩ := hF
  obtain ⟨u51, hF⟩ := hF
  obtain ⟨u52, hF⟩ := hF
  obtain ⟨u53, hF⟩ := hF
  obtain ⟨u54, hF⟩ := hF
  obtain ⟨u55, hF⟩ := hF
  obtain ⟨u56, hF⟩ := hF
  subst hF
  have HN := hide hn
  have HG := hide (show GN w1 w3 from ⟨hJ.below.os, hJ.below.tape, hJ.below.output, hJ.below.size, fun k hk _ => hJ.below.block k hk⟩)
  clear hn hJ
  obtain ⟨e20, e15, l20, l15⟩ := unhide EE
  clear EE
  by_cases h73 : c = 73
  · subst h73
    obtain rfl : tp = 12 := ht
    have hl2 : n < 4096 := hl
    by_cases hq : 2048 ≤ n
    · have z : (bits .and .i64 ((n : Int) / 2048) 1 == 1) = true := by
        rw [show (1 : Int) = 2 ^ 1 - 1 by decide, and64 _ 1 (by decide), beq_iff_eq]
        omega
      have HV := hide (show immP 73 b = (n : Int) - 4096 from (immI_n (unhide HN)).1 hq)
      clear hq HN
      go_wp2_with fail
      refine (has_any F hF 104 _).mono ?_
      rintro r w5 ⟨rfl, rfl⟩
      cases hh : hasF F 104 with
      | false =>
        have HH := hide hh
        clear hh
        go_wp2_with fail
        refine (has_any F hF 122 _).mono ?_
        rintro r w6 ⟨rfl, rfl⟩
        cases hz : hasF F 122 with
        | false =>
          have HR := hide (immF_of F b)
          rw [hz, unhide HH, unhide HC] at HR
          clear hz
          go_wp2
          go_ret
          exact ⟨by rw [unhide HR]; exact congrArg (fun x => Ending.returned (Value.int .i64 x)) (unhide HV).symm, unhide HG⟩
        | true =>
          have HR := hide (immF_of F b)
          rw [hz] at HR
          clear hz
          go_wp2
          go_ret
          exact ⟨by rw [unhide HR]; rfl, unhide HG⟩
      | true =>
        have HH := hide hh
        clear hh
        go_wp2_with fail
        refine (has_any F hF 122 _).mono ?_
        rintro r w6 ⟨rfl, rfl⟩
        cases hz : hasF F 122 with
        | false =>
          have HR := hide (immF_of F b)
          rw [hz, unhide HH] at HR
          clear hz
          go_wp2
          go_ret
          exact ⟨by rw [unhide HR]; rfl, unhide HG⟩
        | true =>
          have HR := hide (immF_of F b)
          rw [hz] at HR
          clear hz
          go_wp2
          go_ret
          exact ⟨by rw [unhide HR]; rfl, unhide HG⟩
    · have z : (bits .and .i64 ((n : Int) / 2048) 1 == 1) = false := by
        rw [show (1 : Int) = 2 ^ 1 - 1 by decide, and64 _ 1 (by decide), beq_eq_false_iff_ne]
        omega
      have HV := hide (show immP 73 b = (n : Int) from (immI_n (unhide HN)).2 (by omega))
      clear hq HN
      go_wp2_with fail
      refine (has_any F hF 104 _).mono ?_
      rintro r w5 ⟨rfl, rfl⟩
      cases hh : hasF F 104 with
      | false =>
        have HH := hide hh
        clear hh
        go_wp2_with fail
        refine (has_any F hF 122 _).mono ?_
        rintro r w6 ⟨rfl, rfl⟩
        cases hz : hasF F 122 with
        | false =>
          have HR := hide (immF_of F b)
          rw [hz, unhide HH, unhide HC] at HR
          clear hz
          go_wp2
          go_ret
          exact ⟨by rw [unhide HR]; exact congrArg (fun x => Ending.returned (Value.int .i64 x)) (unhide HV).symm, unhide HG⟩
        | true =>
          have HR := hide (immF_of F b)
          rw [hz] at HR
          clear hz
          go_wp2
          go_ret
          exact ⟨by rw [unhide HR]; rfl, unhide HG⟩
      | true =>
        have HH := hide hh
        clear hh
        go_wp2_with fail
        refine (has_any F hF 122 _).mono ?_
        rintro r w6 ⟨rfl, rfl⟩
        cases hz : hasF F 122 with
        | false =>
          have HR := hide (immF_of F b)
          rw [hz, unhide HH] at HR
          clear hz
          go_wp2
          go_ret
          exact ⟨by rw [unhide HR]; rfl, unhide HG⟩
        | true =>
          have HR := hide (immF_of F b)
          rw [hz] at HR
          clear hz
          go_wp2
          go_ret
          exact ⟨by rw [unhide HR]; rfl, unhide HG⟩
  by_cases h83 : c = 83
  · subst h83
    obtain rfl : tp = 12 := ht
    have hl2 : n < 4096 := hl
    by_cases hq : 2048 ≤ n
    · have z : (bits .and .i64 ((n : Int) / 2048) 1 == 1) = true := by
        rw [show (1 : Int) = 2 ^ 1 - 1 by decide, and64 _ 1 (by decide), beq_iff_eq]
        omega
      have HV := hide (show immP 83 b = (n : Int) - 4096 from (immS_n (unhide HN)).1 hq)
      clear hq HN
      go_wp2_with fail
      refine (has_any F hF 104 _).mono ?_
      rintro r w5 ⟨rfl, rfl⟩
      cases hh : hasF F 104 with
      | false =>
        have HH := hide hh
        clear hh
        go_wp2_with fail
        refine (has_any F hF 122 _).mono ?_
        rintro r w6 ⟨rfl, rfl⟩
        cases hz : hasF F 122 with
        | false =>
          have HR := hide (immF_of F b)
          rw [hz, unhide HH, unhide HC] at HR
          clear hz
          go_wp2
          go_ret
          exact ⟨by rw [unhide HR]; exact congrArg (fun x => Ending.returned (Value.int .i64 x)) (unhide HV).symm, unhide HG⟩
        | true =>
          have HR := hide (immF_of F b)
          rw [hz] at HR
          clear hz
          go_wp2
          go_ret
          exact ⟨by rw [unhide HR]; rfl, unhide HG⟩
      | true =>
        have HH := hide hh
        clear hh
        go_wp2_with fail
        refine (has_any F hF 122 _).mono ?_
        rintro r w6 ⟨rfl, rfl⟩
        cases hz : hasF F 122 with
        | false =>
          have HR := hide (immF_of F b)
          rw [hz, unhide HH] at HR
          clear hz
          go_wp2
          go_ret
          exact ⟨by rw [unhide HR]; rfl, unhide HG⟩
        | true =>
          have HR := hide (immF_of F b)
          rw [hz] at HR
          clear hz
          go_wp2
          go_ret
          exact ⟨by rw [unhide HR]; rfl, unhide HG⟩
    · have z : (bits .and .i64 ((n : Int) / 2048) 1 == 1) = false := by
        rw [show (1 : Int) = 2 ^ 1 - 1 by decide, and64 _ 1 (by decide), beq_eq_false_iff_ne]
        omega
      have HV := hide (show immP 83 b = (n : Int) from (immS_n (unhide HN)).2 (by omega))
      clear hq HN
      go_wp2_with fail
      refine (has_any F hF 104 _).mono ?_
      rintro r w5 ⟨rfl, rfl⟩
      cases hh : hasF F 104 with
      | false =>
        have HH := hide hh
        clear hh
        go_wp2_with fail
        refine (has_any F hF 122 _).mono ?_
        rintro r w6 ⟨rfl, rfl⟩
        cases hz : hasF F 122 with
        | false =>
          have HR := hide (immF_of F b)
          rw [hz, unhide HH, unhide HC] at HR
          clear hz
          go_wp2
          go_ret
          exact ⟨by rw [unhide HR]; exact congrArg (fun x => Ending.returned (Value.int .i64 x)) (unhide HV).symm, unhide HG⟩
        | true =>
          have HR := hide (immF_of F b)
          rw [hz] at HR
          clear hz
          go_wp2
          go_ret
          exact ⟨by rw [unhide HR]; rfl, unhide HG⟩
      | true =>
        have HH := hide hh
        clear hh
        go_wp2_with fail
        refine (has_any F hF 122 _).mono ?_
        rintro r w6 ⟨rfl, rfl⟩
        cases hz : hasF F 122 with
        | false =>
          have HR := hide (immF_of F b)
          rw [hz, unhide HH] at HR
          clear hz
          go_wp2
          go_ret
          exact ⟨by rw [unhide HR]; rfl, unhide HG⟩
        | true =>
          have HR := hide (immF_of F b)
          rw [hz] at HR
          clear hz
          go_wp2
          go_ret
          exact ⟨by rw [unhide HR]; rfl, unhide HG⟩
  by_cases h66 : c = 66
  · subst h66
    obtain rfl : tp = 13 := ht
    have hl2 : n < 8192 := hl
    by_cases hq : 4096 ≤ n
    · have z : (bits .and .i64 ((n : Int) / 4096) 1 == 1) = true := by
        rw [show (1 : Int) = 2 ^ 1 - 1 by decide, and64 _ 1 (by decide), beq_iff_eq]
        omega
      have HV := hide (show immP 66 b = (n : Int) - 8192 from (immB_n (unhide HN)).1 hq)
      clear hq HN
      go_wp2_with fail
      refine (has_any F hF 104 _).mono ?_
      rintro r w5 ⟨rfl, rfl⟩
      cases hh : hasF F 104 with
      | false =>
        have HH := hide hh
        clear hh
        go_wp2_with fail
        refine (has_any F hF 122 _).mono ?_
        rintro r w6 ⟨rfl, rfl⟩
        cases hz : hasF F 122 with
        | false =>
          have HR := hide (immF_of F b)
          rw [hz, unhide HH, unhide HC] at HR
          clear hz
          go_wp2
          go_ret
          exact ⟨by rw [unhide HR]; exact congrArg (fun x => Ending.returned (Value.int .i64 x)) (unhide HV).symm, unhide HG⟩
        | true =>
          have HR := hide (immF_of F b)
          rw [hz] at HR
          clear hz
          go_wp2
          go_ret
          exact ⟨by rw [unhide HR]; rfl, unhide HG⟩
      | true =>
        have HH := hide hh
        clear hh
        go_wp2_with fail
        refine (has_any F hF 122 _).mono ?_
        rintro r w6 ⟨rfl, rfl⟩
        cases hz : hasF F 122 with
        | false =>
          have HR := hide (immF_of F b)
          rw [hz, unhide HH] at HR
          clear hz
          go_wp2
          go_ret
          exact ⟨by rw [unhide HR]; rfl, unhide HG⟩
        | true =>
          have HR := hide (immF_of F b)
          rw [hz] at HR
          clear hz
          go_wp2
          go_ret
          exact ⟨by rw [unhide HR]; rfl, unhide HG⟩
    · have z : (bits .and .i64 ((n : Int) / 4096) 1 == 1) = false := by
        rw [show (1 : Int) = 2 ^ 1 - 1 by decide, and64 _ 1 (by decide), beq_eq_false_iff_ne]
        omega
      have HV := hide (show immP 66 b = (n : Int) from (immB_n (unhide HN)).2 (by omega))
      clear hq HN
      go_wp2_with fail
      refine (has_any F hF 104 _).mono ?_
      rintro r w5 ⟨rfl, rfl⟩
      cases hh : hasF F 104 with
      | false =>
        have HH := hide hh
        clear hh
        go_wp2_with fail
        refine (has_any F hF 122 _).mono ?_
        rintro r w6 ⟨rfl, rfl⟩
        cases hz : hasF F 122 with
        | false =>
          have HR := hide (immF_of F b)
          rw [hz, unhide HH, unhide HC] at HR
          clear hz
          go_wp2
          go_ret
          exact ⟨by rw [unhide HR]; exact congrArg (fun x => Ending.returned (Value.int .i64 x)) (unhide HV).symm, unhide HG⟩
        | true =>
          have HR := hide (immF_of F b)
          rw [hz] at HR
          clear hz
          go_wp2
          go_ret
          exact ⟨by rw [unhide HR]; rfl, unhide HG⟩
      | true =>
        have HH := hide hh
        clear hh
        go_wp2_with fail
        refine (has_any F hF 122 _).mono ?_
        rintro r w6 ⟨rfl, rfl⟩
        cases hz : hasF F 122 with
        | false =>
          have HR := hide (immF_of F b)
          rw [hz, unhide HH] at HR
          clear hz
          go_wp2
          go_ret
          exact ⟨by rw [unhide HR]; rfl, unhide HG⟩
        | true =>
          have HR := hide (immF_of F b)
          rw [hz] at HR
          clear hz
          go_wp2
          go_ret
          exact ⟨by rw [unhide HR]; rfl, unhide HG⟩
  by_cases h85 : c = 85
  · subst h85
    obtain rfl : tp = 32 := ht
    have hl2 : n < 4294967296 := hl
    by_cases hq : 2147483648 ≤ n
    · have z : (bits .and .i64 ((n : Int) / 2147483648) 1 == 1) = true := by
        rw [show (1 : Int) = 2 ^ 1 - 1 by decide, and64 _ 1 (by decide), beq_iff_eq]
        omega
      have HV := hide (show immP 85 b = (n : Int) - 4294967296 from (immU_n (unhide HN)).1 hq)
      clear hq HN
      go_wp2_with fail
      refine (has_any F hF 104 _).mono ?_
      rintro r w5 ⟨rfl, rfl⟩
      cases hh : hasF F 104 with
      | false =>
        have HH := hide hh
        clear hh
        go_wp2_with fail
        refine (has_any F hF 122 _).mono ?_
        rintro r w6 ⟨rfl, rfl⟩
        cases hz : hasF F 122 with
        | false =>
          have HR := hide (immF_of F b)
          rw [hz, unhide HH, unhide HC] at HR
          clear hz
          go_wp2
          go_ret
          exact ⟨by rw [unhide HR]; exact congrArg (fun x => Ending.returned (Value.int .i64 x)) (unhide HV).symm, unhide HG⟩
        | true =>
          have HR := hide (immF_of F b)
          rw [hz] at HR
          clear hz
          go_wp2
          go_ret
          exact ⟨by rw [unhide HR]; rfl, unhide HG⟩
      | true =>
        have HH := hide hh
        clear hh
        go_wp2_with fail
        refine (has_any F hF 122 _).mono ?_
        rintro r w6 ⟨rfl, rfl⟩
        cases hz : hasF F 122 with
        | false =>
          have HR := hide (immF_of F b)
          rw [hz, unhide HH] at HR
          clear hz
          go_wp2
          go_ret
          exact ⟨by rw [unhide HR]; rfl, unhide HG⟩
        | true =>
          have HR := hide (immF_of F b)
          rw [hz] at HR
          clear hz
          go_wp2
          go_ret
          exact ⟨by rw [unhide HR]; rfl, unhide HG⟩
    · have z : (bits .and .i64 ((n : Int) / 2147483648) 1 == 1) = false := by
        rw [show (1 : Int) = 2 ^ 1 - 1 by decide, and64 _ 1 (by decide), beq_eq_false_iff_ne]
        omega
      have HV := hide (show immP 85 b = (n : Int) from (immU_n (unhide HN)).2 (by omega))
      clear hq HN
      go_wp2_with fail
      refine (has_any F hF 104 _).mono ?_
      rintro r w5 ⟨rfl, rfl⟩
      cases hh : hasF F 104 with
      | false =>
        have HH := hide hh
        clear hh
        go_wp2_with fail
        refine (has_any F hF 122 _).mono ?_
        rintro r w6 ⟨rfl, rfl⟩
        cases hz : hasF F 122 with
        | false =>
          have HR := hide (immF_of F b)
          rw [hz, unhide HH, unhide HC] at HR
          clear hz
          go_wp2
          go_ret
          exact ⟨by rw [unhide HR]; exact congrArg (fun x => Ending.returned (Value.int .i64 x)) (unhide HV).symm, unhide HG⟩
        | true =>
          have HR := hide (immF_of F b)
          rw [hz] at HR
          clear hz
          go_wp2
          go_ret
          exact ⟨by rw [unhide HR]; rfl, unhide HG⟩
      | true =>
        have HH := hide hh
        clear hh
        go_wp2_with fail
        refine (has_any F hF 122 _).mono ?_
        rintro r w6 ⟨rfl, rfl⟩
        cases hz : hasF F 122 with
        | false =>
          have HR := hide (immF_of F b)
          rw [hz, unhide HH] at HR
          clear hz
          go_wp2
          go_ret
          exact ⟨by rw [unhide HR]; rfl, unhide HG⟩
        | true =>
          have HR := hide (immF_of F b)
          rw [hz] at HR
          clear hz
          go_wp2
          go_ret
          exact ⟨by rw [unhide HR]; rfl, unhide HG⟩
  by_cases h74 : c = 74
  · subst h74
    obtain rfl : tp = 21 := ht
    have hl2 : n < 2097152 := hl
    by_cases hq : 1048576 ≤ n
    · have z : (bits .and .i64 ((n : Int) / 1048576) 1 == 1) = true := by
        rw [show (1 : Int) = 2 ^ 1 - 1 by decide, and64 _ 1 (by decide), beq_iff_eq]
        omega
      have HV := hide (show immP 74 b = (n : Int) - 2097152 from (immJ_n (unhide HN)).1 hq)
      clear hq HN
      go_wp2_with fail
      refine (has_any F hF 104 _).mono ?_
      rintro r w5 ⟨rfl, rfl⟩
      cases hh : hasF F 104 with
      | false =>
        have HH := hide hh
        clear hh
        go_wp2_with fail
        refine (has_any F hF 122 _).mono ?_
        rintro r w6 ⟨rfl, rfl⟩
        cases hz : hasF F 122 with
        | false =>
          have HR := hide (immF_of F b)
          rw [hz, unhide HH, unhide HC] at HR
          clear hz
          go_wp2
          go_ret
          exact ⟨by rw [unhide HR]; exact congrArg (fun x => Ending.returned (Value.int .i64 x)) (unhide HV).symm, unhide HG⟩
        | true =>
          have HR := hide (immF_of F b)
          rw [hz] at HR
          clear hz
          go_wp2
          go_ret
          exact ⟨by rw [unhide HR]; rfl, unhide HG⟩
      | true =>
        have HH := hide hh
        clear hh
        go_wp2_with fail
        refine (has_any F hF 122 _).mono ?_
        rintro r w6 ⟨rfl, rfl⟩
        cases hz : hasF F 122 with
        | false =>
          have HR := hide (immF_of F b)
          rw [hz, unhide HH] at HR
          clear hz
          go_wp2
          go_ret
          exact ⟨by rw [unhide HR]; rfl, unhide HG⟩
        | true =>
          have HR := hide (immF_of F b)
          rw [hz] at HR
          clear hz
          go_wp2
          go_ret
          exact ⟨by rw [unhide HR]; rfl, unhide HG⟩
    · have z : (bits .and .i64 ((n : Int) / 1048576) 1 == 1) = false := by
        rw [show (1 : Int) = 2 ^ 1 - 1 by decide, and64 _ 1 (by decide), beq_eq_false_iff_ne]
        omega
      have HV := hide (show immP 74 b = (n : Int) from (immJ_n (unhide HN)).2 (by omega))
      clear hq HN
      go_wp2_with fail
      refine (has_any F hF 104 _).mono ?_
      rintro r w5 ⟨rfl, rfl⟩
      cases hh : hasF F 104 with
      | false =>
        have HH := hide hh
        clear hh
        go_wp2_with fail
        refine (has_any F hF 122 _).mono ?_
        rintro r w6 ⟨rfl, rfl⟩
        cases hz : hasF F 122 with
        | false =>
          have HR := hide (immF_of F b)
          rw [hz, unhide HH, unhide HC] at HR
          clear hz
          go_wp2
          go_ret
          exact ⟨by rw [unhide HR]; exact congrArg (fun x => Ending.returned (Value.int .i64 x)) (unhide HV).symm, unhide HG⟩
        | true =>
          have HR := hide (immF_of F b)
          rw [hz] at HR
          clear hz
          go_wp2
          go_ret
          exact ⟨by rw [unhide HR]; rfl, unhide HG⟩
      | true =>
        have HH := hide hh
        clear hh
        go_wp2_with fail
        refine (has_any F hF 122 _).mono ?_
        rintro r w6 ⟨rfl, rfl⟩
        cases hz : hasF F 122 with
        | false =>
          have HR := hide (immF_of F b)
          rw [hz, unhide HH] at HR
          clear hz
          go_wp2
          go_ret
          exact ⟨by rw [unhide HR]; rfl, unhide HG⟩
        | true =>
          have HR := hide (immF_of F b)
          rw [hz] at HR
          clear hz
          go_wp2
          go_ret
          exact ⟨by rw [unhide HR]; rfl, unhide HG⟩
  have hnil : pcN c = [] := by unfold pcN; simp [h73, h83, h66, h85, h74]
  rw [hnil] at ht HN ⊢
  obtain rfl : n = 0 := unhide HN
  have HV := hide (show immP c b = ((0 : Nat) : Int) by unfold immP; simp [h73, h83, h66, h85, h74])
  clear hnil HN h73 h83 h66 h85 h74 ht hl
  go_wp2_with fail
  refine (has_any F hF 104 _).mono ?_
  rintro r w5 ⟨rfl, rfl⟩
  cases hh : hasF F 104 with
  | false =>
    have HH := hide hh
    clear hh
    go_wp2_with fail
    refine (has_any F hF 122 _).mono ?_
    rintro r w6 ⟨rfl, rfl⟩
    cases hz : hasF F 122 with
    | false =>
      have HR := hide (immF_of F b)
      rw [hz, unhide HH, unhide HC] at HR
      clear hz
      go_wp2
      go_ret
      exact ⟨by rw [unhide HR]; exact congrArg (fun x => Ending.returned (Value.int .i64 x)) (unhide HV).symm, unhide HG⟩
    | true =>
      have HR := hide (immF_of F b)
      rw [hz] at HR
      clear hz
      go_wp2
      go_ret
      exact ⟨by rw [unhide HR]; rfl, unhide HG⟩
  | true =>
    have HH := hide hh
    clear hh
    go_wp2_with fail
    refine (has_any F hF 122 _).mono ?_
    rintro r w6 ⟨rfl, rfl⟩
    cases hz : hasF F 122 with
    | false =>
      have HR := hide (immF_of F b)
      rw [hz, unhide HH] at HR
      clear hz
      go_wp2
      go_ret
      exact ⟨by rw [unhide HR]; rfl, unhide HG⟩
    | true =>
      have HR := hide (immF_of F b)
      rw [hz] at HR
      clear hz
      go_wp2
      go_ret
      exact ⟨by rw [unhide HR]; rfl, unhide HG⟩
end Go.Proofs.Ytopbdiekfhikmaa
