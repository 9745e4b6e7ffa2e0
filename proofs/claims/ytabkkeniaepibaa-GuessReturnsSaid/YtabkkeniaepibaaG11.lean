/- Layer 18: calls return in turn: the walk. -/
import Derived.Test.YtabkkeniaepibaaG10
namespace Go.Proofs.Ytabkkeniaepibaa
open Go.RowKit

/-- The rows of the first k calls, the stack of s places, no history. -/
structure RS (F : Int) (k : Nat) (ret : Bool) (s : Nat) (c : St) : Prop where
  row : ∀ i : Nat, i < k → c (i * 3) = F + 2 * i ∧ c (i * 3 + 1) = F + 1 ∧ c (i * 3 + 2) = 3
  last : ret = true → c 24 = F + 16 ∧ c 25 = 3 ∧ c 26 = 4
  size : c 116 = s
  stk : ∀ j : Nat, j < 4 → c (112 + j) = if j < s then F + 2 * j + 2 else 0
  hist : c 117 = 0
theorem rowF {F : Int} (h : F % 32 = 0) (i : Nat) (hi : i < 16) : rowN (F + 2 * i) = i := by unfold rowN; omega
theorem RS.start (F s : Int) : RS F 0 false 0 (c0 s) := by
  refine ⟨fun i h => (by omega), fun h => (by cases h), ?_, fun j h => ?_, ?_⟩
  · unfold c0; rw [if_neg (by omega)]; rfl
  · unfold c0; rw [if_neg (by omega), if_neg (by omega)]
  · unfold c0; rw [if_neg (by omega)]
theorem RS.learn {F : Int} {k s : Nat} {c : St} (h : RS F k false s c) (hF : F % 32 = 0) (hk : k < 4) : RS F (k + 1) false s (lSt c (F + 2 * k) 3 true (F + 1)) := by
  have e : lSt c (F + 2 * k) 3 true (F + 1) = setRow c k (F + 2 * k) (F + 1) 3 := by
    have := rowF hF k (by omega)
    simp [lSt, lRow, this]
  rw [e]
  refine ⟨fun i hi => ?_, fun h => (by cases h), ?_, fun j hj => ?_, ?_⟩
  · by_cases hik : i = k
    · subst hik
      unfold setRow upd
      refine ⟨?_, ?_, ?_⟩
      · rw [if_neg (by omega), if_neg (by omega), if_pos rfl]
      · rw [if_neg (by omega), if_pos rfl]
      · rw [if_pos rfl]
    · obtain ⟨r0, r1, r2⟩ := h.row i (by omega)
      unfold setRow upd
      refine ⟨?_, ?_, ?_⟩
      · rw [if_neg (by omega), if_neg (by omega), if_neg (by omega)]; exact r0
      · rw [if_neg (by omega), if_neg (by omega), if_neg (by omega)]; exact r1
      · rw [if_neg (by omega), if_neg (by omega), if_neg (by omega)]; exact r2
  · rw [setRow_out _ (by omega) (by omega)]; exact h.size
  · rw [setRow_out _ (by omega) (by omega)]; exact h.stk j hj
  · rw [setRow_out _ (by omega) (by omega)]; exact h.hist
theorem RS.ret {F : Int} {k s : Nat} {c : St} (h : RS F k false s c) (hF : F % 32 = 0) (hk : k ≤ 4) : RS F k true s (lSt c (F + 16) 4 true 3) := by
  have e : lSt c (F + 16) 4 true 3 = setRow c 8 (F + 16) 3 4 := by
    have h2 : rowN (F + 16) = 8 := by unfold rowN; omega
    simp [lSt, lRow, h2]
  rw [e]
  refine ⟨fun i hi => ?_, fun _ => ?_, ?_, fun j hj => ?_, ?_⟩
  · obtain ⟨r0, r1, r2⟩ := h.row i (by omega)
    unfold setRow upd
    refine ⟨?_, ?_, ?_⟩
    · rw [if_neg (by omega), if_neg (by omega), if_neg (by omega)]; exact r0
    · rw [if_neg (by omega), if_neg (by omega), if_neg (by omega)]; exact r1
    · rw [if_neg (by omega), if_neg (by omega), if_neg (by omega)]; exact r2
  · unfold setRow upd
    refine ⟨?_, ?_, ?_⟩
    · rw [if_neg (by omega), if_neg (by omega), if_pos rfl]
    · rw [if_neg (by omega), if_pos rfl]
    · rw [if_pos rfl]
  · rw [setRow_out _ (by omega) (by omega)]; exact h.size
  · rw [setRow_out _ (by omega) (by omega)]; exact h.stk j hj
  · rw [setRow_out _ (by omega) (by omega)]; exact h.hist
theorem RS.rows {F : Int} {k s s' : Nat} {c c' : St} (h : RS F k true s c) (ho : ∀ i, i < 112 → c' i = c i) (hk : k ≤ 4) (h1 : c' 116 = s') (h2 : ∀ j : Nat, j < 4 → c' (112 + j) = if j < s' then F + 2 * j + 2 else 0) (h3 : c' 117 = 0) : RS F k true s' c' := by
  obtain ⟨l0, l1, l2⟩ := h.last rfl
  exact ⟨fun i hi => by rw [ho _ (by omega), ho _ (by omega), ho _ (by omega)]; exact h.row i hi, fun _ => by rw [ho 24 (by omega), ho 25 (by omega), ho 26 (by omega)]; exact ⟨l0, l1, l2⟩, h1, h2, h3⟩
theorem RS.call {F : Int} {k s : Nat} {c : St} (h : RS F k true s c) (hF : F % 32 = 0) (f0 : 0 ≤ F) (f1 : F + 32 ≤ 18446744073709551616) (hk : k ≤ 4) (hs : s < k) : nOut c (F + 2 * s) 2 = F + 1 ∧ RS F k true (s + 1) (nSt c (F + 2 * s) 2) := by
  have hr := rowF hF s (by omega)
  obtain ⟨r0, r1, r2⟩ := h.row s hs
  have hrk : rk c (F + 2 * s) = 3 := by unfold rk; rw [hr, if_pos r0, r2]
  have hb : behind (F + 2 * s) 2 = F + 2 * s + 2 := by
    unfold behind
    rw [if_pos rfl, IntKind.wrap_u64]
    omega
  have hsz := h.size
  refine ⟨by unfold nOut; rw [hrk, hr, r1]; simp, ?_⟩
  have e : nSt c (F + 2 * s) 2 = upd (upd c (112 + s) (F + 2 * s + 2)) 116 (s + 1) := by
    unfold nSt
    rw [hrk, if_pos rfl, hb]
    unfold pushS
    rw [hsz, if_neg (by omega)]
    rfl
  rw [e]
  refine h.rows (fun i hi => ?_) hk ?_ (fun j hj => ?_) ?_
  · unfold upd; rw [if_neg (by omega), if_neg (by omega)]
  · unfold upd; rw [if_pos rfl]; rfl
  · unfold upd
    rw [if_neg (by omega)]
    by_cases hjs : j = s
    · subst hjs; rw [if_pos rfl, if_pos (by omega)]
    · rw [if_neg (by omega), h.stk j hj]
      by_cases h2 : j < s
      · rw [if_pos h2, if_pos (by omega)]
      · rw [if_neg h2, if_neg (by omega)]
  · unfold upd; rw [if_neg (by omega), if_neg (by omega)]; exact h.hist
theorem RS.rk16 {F : Int} {k s : Nat} {c : St} (h : RS F k true s c) (hF : F % 32 = 0) : rk c (F + 16) = 4 ∧ rowN (F + 16) = 8 := by
  have h2 : rowN (F + 16) = 8 := by unfold rowN; omega
  obtain ⟨l0, l1, l2⟩ := h.last rfl
  refine ⟨?_, h2⟩
  unfold rk
  rw [h2, if_pos l0]
  exact l2
theorem RS.back1 {F : Int} {k s : Nat} {c : St} (h : RS F k true (s + 1) c) (hF : F % 32 = 0) (hk : k ≤ 4) (hs : s < k) : nOut c (F + 16) 4 = F + 2 * s + 2 ∧ RS F k true s (nSt c (F + 16) 4) := by
  obtain ⟨h4, h8⟩ := h.rk16 hF
  have hsz := h.size
  have e1 : (c 116 - 1).toNat = s := by rw [hsz]; omega
  have e0 : ¬ c 116 = 0 := by rw [hsz]; omega
  have es : c (112 + s) = F + 2 * s + 2 := by rw [h.stk s (by omega), if_pos (by omega)]
  refine ⟨by unfold nOut; rw [h4, e1]; simp [e0, es], ?_⟩
  have e : nSt c (F + 16) 4 = upd (upd c 116 s) (112 + s) 0 := by
    unfold nSt
    rw [h4]
    simp only [show ¬ ((4 : Int) = 3) by decide, if_false, if_true]
    unfold popS
    rw [if_neg e0, e1, hsz, show ((s + 1 : Nat) : Int) - 1 = s by omega]
  rw [e]
  refine h.rows (fun i hi => ?_) hk ?_ (fun j hj => ?_) ?_
  · unfold upd; rw [if_neg (by omega), if_neg (by omega)]
  · unfold upd; rw [if_neg (by omega), if_pos rfl]
  · unfold upd
    by_cases hjs : j = s
    · subst hjs; rw [if_pos rfl, if_neg (by omega)]
    · rw [if_neg (by omega), if_neg (by omega), h.stk j hj]
      by_cases h2 : j < s
      · rw [if_pos (by omega), if_pos h2]
      · rw [if_neg (by omega), if_neg h2]
  · unfold upd; rw [if_neg (by omega), if_neg (by omega)]; exact h.hist
theorem RS.none {F : Int} {k : Nat} {c : St} (h : RS F k true 0 c) (hF : F % 32 = 0) : nOut c (F + 16) 4 = 3 ∧ nSt c (F + 16) 4 = c := by
  obtain ⟨h4, h8⟩ := h.rk16 hF
  have hsz := h.size
  obtain ⟨l0, l1, l2⟩ := h.last rfl
  refine ⟨by unfold nOut; rw [h4, h8]; simp [hsz, l1], by unfold nSt popS; rw [h4]; simp [hsz]⟩
theorem RS.clear {F : Int} {k s : Nat} {c : St} (h : RS F k true s c) (hk : k ≤ 4) : RS F k true 0 (backS c (m4 0 0 0 0) 0 0) := by
  refine h.rows (fun i hi => ?_) hk ?_ (fun j hj => ?_) ?_
  · unfold backS; rw [if_neg (by omega), if_neg (by omega), if_neg (by omega)]
  · rfl
  · unfold backS
    rw [if_neg (by omega), if_neg (by omega), if_pos (by omega), if_neg (by rw [show clamp 0 = 0 from rfl]; omega), if_neg (by omega)]
  · rfl
theorem RS.mark0 {F : Int} {k : Nat} {ret : Bool} {c : St} (h : RS F k ret 0 c) : mkv c = #[.int .u64 0, .int .u64 0, .int .u64 0, .int .u64 0, .int .i64 0, .int .u64 0] := by
  have h0 := h.stk 0 (by omega)
  have h1 := h.stk 1 (by omega)
  have h2 := h.stk 2 (by omega)
  have h3 := h.stk 3 (by omega)
  simp only [Nat.add_zero, Nat.reduceAdd, Nat.not_lt_zero, if_false] at h0 h1 h2 h3
  unfold mkv
  rw [h0, h1, h2, h3, h.size, h.hist]
  rfl
theorem add16 {F : Int} (f0 : 0 ≤ F) (f1 : F + 32 ≤ 18446744073709551616) (w : World) : (binOp .add 22 (.int .u64 F) (.int .u64 16)).run Try.prog w = .ok (.int .u64 (F + 16)) w := by
  have h : (binOp .add 22 (.int .u64 F) (.int .u64 16)).run Try.prog w = .ok (.int .u64 (IntKind.u64.wrap (F + 16))) w := by kernel_rfl
  rw [h, IntKind.wrap_u64, Int.emod_eq_of_lt (by omega) (by omega)]
theorem not31 (x : Int) (h0 : 0 ≤ x) (h1 : x < 18446744073709551616) : bits .andNot .u64 x 31 = x / 32 * 32 := by
  rw [u64_andNot x 31 h0 h1 (by omega) (by omega)]
  have : x.toNat &&& (18446744073709551615 - (31 : Int).toNat) = x.toNat / 32 * 32 := nat_and_high 5 59 x.toNat (by omega)
  rw [this]; omega

set_option maxRecDepth 100000 in
set_option maxHeartbeats 4000000 in
theorem returns_walk (seed : Int) (s0 : 0 ≤ seed) (s1 : seed < 18446744073709551616) (calls : Int) (far : Int) (p0 : 0 ≤ far) (p1 : far < 18446744073709551616) (w : World) :
    Calls Try.prog 5 #[.int .u64 seed, .int .i64 calls, .int .u64 far] w fun e w' => e = .returned (.bool true) ∧ Below w.heap.size w w' := by
  go_enter Try.func5, Try.ntmps5
  go_wp2_with fail
  refine (fixed_h (Heap.nil w)).mono ?_
  rintro r w1 ⟨rfl, h1⟩
  obtain ⟨m, hm⟩ : ∃ m, calls.tmod 4 = m := ⟨_, rfl⟩
  have hm3 : -3 ≤ m ∧ m ≤ 3 := by
    rcases Int.lt_or_le calls 0 with h | h
    · have := Int.tmod_eq_emod_of_nonneg (a := -calls) (b := 4) (by omega)
      rw [Int.neg_tmod] at this; omega
    · have := Int.tmod_eq_emod_of_nonneg (a := calls) (b := 4) h
      omega
  go_upto_if 20 with fail
  go_cut [7] (fun s7 wx => ∃ n : Nat, s7 = .int .i64 n ∧ n ≤ 3 ∧ wx = w1)
  case first =>
    by_cases q : m < 0
    · have z : decide (m < 0) = true := decide_eq_true q
      go_wp2
      go_meet
      exact ⟨(-m).toNat, by rw [Int.toNat_of_nonneg (by omega)], by omega, rfl⟩
    · have z : decide (m < 0) = false := decide_eq_false q
      go_wp2
      go_meet
      exact ⟨m.toNat, by rw [Int.toNat_of_nonneg (by omega)], by omega, rfl⟩
  case rest =>
    obtain ⟨n, rfl, hn, hw⟩ := hcut
    rw [hw]
    clear hw hm hm3
    go_wp2_with fail
    refine (new_h h1 seed s0 s1).mono ?_
    rintro r w2 ⟨b, rfl, h2⟩
    clear h1
    have hb := not31 far p0 p1
    obtain ⟨F, hFe⟩ : ∃ F, IntKind.u64.wrap (far / 32 * 32 + 64) = F := ⟨_, rfl⟩
    have hF : 0 ≤ F ∧ F + 32 ≤ 18446744073709551616 ∧ F % 32 = 0 := by rw [← hFe, IntKind.wrap_u64]; omega
    have HF := hide hF
    obtain ⟨f0, f1, f2⟩ := hF
    clear f2
    have z1 : decide ((n : Int) + 1 ≤ (n : Int)) = false := decide_eq_false (by omega)
    go_wp2
    clear hFe hb
    go_loopw [9] (fun i wr => ∃ (k : Nat) (c : St), i = .int .i64 k ∧ k ≤ n + 1 ∧ RS F k false 0 c ∧ Heap w wr [HP.gg b c]) (fun i _ => n + 1 - (intOf i).toNat)
    case atStart => exact ⟨0, c0 seed, rfl, Nat.zero_le _, RS.start _ _, h2⟩
    case round =>
      obtain ⟨k, c, rfl, hk, hrs, hJ⟩ := hrel
      clear h2
      have Hrs := hide hrs
      clear hrs
      by_cases hlt : k ≤ n
      · go_wp2_with fail
        refine (learn_h hJ (F + 2 * k) 3 true (F + 1) (by omega) (by omega) (by omega) (by omega)).mono ?_
        rintro r w5 ⟨rfl, h5⟩
        clear hJ
        go_wp2
        exact ⟨⟨k + 1, _, by go_num, by omega, (unhide Hrs).learn (unhide HF).2.2 (by omega), h5⟩, by simp [intOf]; omega⟩
      · obtain rfl : k = n + 1 := by omega
        go_wp2_with fail
        refine (learn_h hJ (F + 16) 4 true 3 (by omega) (by omega) (by decide) (by decide)).mono ?_
        rintro r w5 ⟨rfl, h5⟩
        clear hJ
        have hrs := (unhide Hrs).ret (unhide HF).2.2 (by omega)
        have HMz := hrs.mark0
        have Hrs := hide hrs
        clear hrs
        generalize lSt c (F + 16) 4 true 3 = c1 at *
        go_wp2_with fail
        refine (mark_h h5).mono ?_
        rintro r w6 ⟨rfl, h6⟩
        rw [HMz]
        clear HMz
        have h7 := (h6.new #[.int .u64 0, .int .u64 0, .int .u64 0, .int .u64 0, .int .i64 0, .int .u64 0] 31).f2
        obtain ⟨bm, hbm⟩ : ∃ bm, w6.heap.size = bm := ⟨_, rfl⟩
        rw [hbm] at h7
        clear h5 h6
        go_wp2
        clear hbm
        go_loopw [11] (fun i wr => ∃ (t : Nat) (c : St), i = .int .i64 t ∧ t ≤ 2 ∧ RS F (n + 1) true (if t = 2 then n + 1 else 0) c ∧ Heap w wr [HP.gg b c, HP.blk bm #[.int .u64 0, .int .u64 0, .int .u64 0, .int .u64 0, .int .i64 0, .int .u64 0] 31]) (fun i _ => 2 - (intOf i).toNat)
        case atStart => exact ⟨0, c1, rfl, by decide, unhide Hrs, h7⟩
        case round =>
          obtain ⟨t, c, rfl, ht, hrs, hJ⟩ := hrel
          clear h7
          by_cases ht2 : t < 2
          · rw [if_neg (by omega)] at hrs
            have zt : decide ((t : Int) < 2) = true := decide_eq_true (by omega)
            have Hrs := hide hrs
            clear hrs
            go_wp2
            go_loopw [12] (fun i wr => ∃ (k : Nat) (c : St), i = .int .i64 k ∧ k ≤ n + 1 ∧ RS F (n + 1) true k c ∧ Heap w wr [HP.gg b c, HP.blk bm #[.int .u64 0, .int .u64 0, .int .u64 0, .int .u64 0, .int .i64 0, .int .u64 0] 31]) (fun i _ => n + 1 - (intOf i).toNat)
            case atStart => exact ⟨0, c, rfl, Nat.zero_le _, unhide Hrs, hJ⟩
            case round =>
              obtain ⟨k, c, rfl, hk, hrs, hK⟩ := hrel
              clear hJ
              by_cases hkn : k ≤ n
              · obtain ⟨ho, hrs2⟩ := hrs.call (unhide HF).2.2 f0 f1 (by omega) (by omega)
                have Hrs2 := hide hrs2
                have HN : Hid (∀ w_ M, Heap w w_ (HP.gg b c :: M) → Calls Try.prog 14 #[.pointer (some ⟨b, 0, none⟩), .int .u64 (F + 2 * k), .int .i64 2] w_ fun r w' => r = .returned (.int .u64 (F + 1)) ∧ Heap w w' (HP.gg b (nSt c (F + 2 * k) 2) :: M)) := hide fun w_ M hh => by
                  have := next_h hh (F + 2 * k) 2 (by omega) (by omega)
                  rw [ho] at this
                  exact this
                clear hrs hrs2 ho
                generalize nSt c (F + 2 * k) 2 = c2 at *
                have z : (F + 1 != F + 1) = false := by simp
                go_wp2_with fail
                refine (unhide HN _ _ hK).mono ?_
                rintro r w8 ⟨rfl, h8⟩
                clear HN hK
                go_wp2
                go_roundw
                case rel => exact ⟨k + 1, c2, by go_num, by omega, unhide Hrs2, h8⟩
                case measure => simp [intOf]; omega
              · obtain rfl : k = n + 1 := by omega
                have hsz : c 116 = (n : Int) + 1 := by rw [hrs.size]; omega
                have hh := hrs.hist
                have Hrs := hide hrs
                clear hrs
                go_wp2_with fail
                refine (mark_h hK).mono ?_
                rintro r w8 ⟨rfl, h8⟩
                unfold mkv
                rw [hsz, hh]
                have h9 := (h8.new #[.int .u64 (c 112), .int .u64 (c 113), .int .u64 (c 114), .int .u64 (c 115), .int .i64 ((n : Int) + 1), .int .u64 0] 31)
                have e6 := cells6 h9.heap
                have m6 := cells6 h9.f3.heap
                have hl6 := lt_of_heap' h9.heap
                have hl7 := lt_of_heap' h9.f3.heap
                have ez : (((n : Int) + 1) != ((n : Int) + 1)) = false := by simp
                clear hsz hh hK h8
                by_cases ht0 : t = 0
                · subst ht0
                  go_wp2_with fail
                  refine (back_h (m0 := 0) (m1 := 0) (m2 := 0) (m3 := 0) (sz := 0) (hs := 0) h9.f2 (by decide) (by decide) (by decide) (by decide) (by decide) (by decide)).mono ?_
                  rintro r w10 ⟨rfl, h10⟩
                  have hrs3 := (unhide Hrs).clear (by omega)
                  have h9' := h10.f2.tail
                  clear h9 h10 e6 m6
                  have h9 := h9'
                  clear h9'
                  have HMz := hide hrs3.mark0
                  have Hrs3 := hide hrs3
                  clear hrs3
                  generalize backS c (m4 0 0 0 0) 0 0 = d at *
                  go_wp2_with fail
                  refine wp_region_F (fun w_ => Heap w w_ [HP.gg b d, HP.blk bm #[.int .u64 0, .int .u64 0, .int .u64 0, .int .u64 0, .int .i64 0, .int .u64 0] 31]) (fun _ _ => True) (fun k_ v_ w_ => match k_ with
                      | 0 => v_ = .pointer (some ⟨b, 0, none⟩)
                      | 1 => v_ = .agg #[.int .u64 0, .int .u64 0, .int .u64 0, .int .u64 0, .int .i64 0, .int .u64 0]
                      | 2 => v_ = .agg #[.int .u64 0, .int .u64 0, .int .u64 0, .int .u64 0, .int .i64 0, .int .u64 0]
                      | _ => v_ = .bool false) fol (by kernel_rfl) ?_ ?_ ?_ ?_
                  · exact h9.drew
                  · intro k_ v_ w_ w2_ h1 hg
                    split at h1 <;> exact h1
                  · intro vals
                    show wpG _ _ _ _ _ _ 0 (_ :: _) _
                    refine wpG_cons (gval (.pointer (some ⟨b, 0, none⟩)) (fun _ => trivial) fun w_ hJ hd => ?_) ?_
                    · exact ⟨by kernel_rfl, by kernel_rfl, rfl⟩
                    refine wpG_cons (gcall 11 #[.pointer (some ⟨b, 0, none⟩)] fun w_ hJ hd => ?_) ?_
                    · have e0 : vals 0 = _ := hd 0 (by decide) (by kernel_rfl)
                      rw [e0]
                      exact ⟨by kernel_rfl, by kernel_rfl, (mark_h hJ).mono fun e w2 ⟨he, hh⟩ => ⟨_, he, hh, trivial, congrArg Value.agg (unhide HMz)⟩⟩
                    refine wpG_cons (gop (Instr.loadAt 31 (.pointer (some ⟨bm, 0, none⟩))) (.agg #[.int .u64 0, .int .u64 0, .int .u64 0, .int .u64 0, .int .i64 0, .int .u64 0]) (fun _ => trivial) fun w_ hJ hd => ?_) ?_
                    · exact ⟨by kernel_rfl, by kernel_rfl, load_mk hJ.f2.heap, rfl⟩
                    refine wpG_cons (gop ((do eqGuard .neq 31 (.tmp 87) (.tmp 88) (.agg #[.int .u64 0, .int .u64 0, .int .u64 0, .int .u64 0, .int .i64 0, .int .u64 0]) (.agg #[.int .u64 0, .int .u64 0, .int .u64 0, .int .u64 0, .int .i64 0, .int .u64 0]); binOp .neq 31 (.agg #[.int .u64 0, .int .u64 0, .int .u64 0, .int .u64 0, .int .i64 0, .int .u64 0]) (.agg #[.int .u64 0, .int .u64 0, .int .u64 0, .int .u64 0, .int .i64 0, .int .u64 0]))) (.bool false) (fun _ => trivial) fun w_ hJ hd => ?_) wpG_nil
                    · have e1 : vals 1 = _ := hd 1 (by decide) (by kernel_rfl)
                      have e2 : vals 2 = _ := hd 2 (by decide) (by kernel_rfl)
                      rw [e1, e2]
                      exact ⟨by kernel_rfl, by kernel_rfl, eqg31 (neql31 _ _ _ _ _ _ ⟨by decide, by decide, by decide, by decide, by decide, by decide⟩ w_), rfl⟩
                  · intro vals w_ hJ hf
                    have e0 : vals 0 = _ := hf 0 (by decide)
                    have e1 : vals 1 = _ := hf 1 (by decide)
                    have e2 : vals 2 = _ := hf 2 (by decide)
                    have e3 : vals 3 = _ := hf 3 (by decide)
                    simp only [fillG, Nat.zero_add, Nat.reduceAdd, e0, e1, e2, e3, Act.put, List.setIfInBounds_toArray, List.set_cons_succ, List.set_cons_zero]
                    clear e0 e1 e2 e3 hf
                    go_wp2
                    exact ⟨⟨1, d, rfl, by decide, unhide Hrs3, hJ⟩, by decide⟩
                · obtain rfl : t = 1 := by omega
                  have h9' := h9.tail
                  go_wp2
                  exact ⟨⟨2, c, rfl, by decide, unhide Hrs, h9'⟩, by decide⟩
          · obtain rfl : t = 2 := by omega
            rw [if_pos rfl] at hrs
            rw [show ((2 : Nat) : Int) = 2 from rfl]
            have Hrs := hide hrs
            clear hrs
            go_wp2
            go_loopw [14] (fun i wr => ∃ (s : Nat) (c : St), i = .int .i64 ((s : Int) - 1) ∧ s ≤ n + 1 ∧ RS F (n + 1) true s c ∧ Heap w wr [HP.gg b c, HP.blk bm #[.int .u64 0, .int .u64 0, .int .u64 0, .int .u64 0, .int .i64 0, .int .u64 0] 31]) (fun i _ => (intOf i + 1).toNat)
            case atStart => exact ⟨n + 1, c, by go_num, Nat.le_refl _, unhide Hrs, hJ⟩
            case round =>
              obtain ⟨s, c, rfl, hs, hrs, hK⟩ := hrel
              clear hJ
              cases s with
              | zero =>
                obtain ⟨ho, hns⟩ := hrs.none (unhide HF).2.2
                have HMz := hide hrs.mark0
                have HN : Hid (∀ w_ M, Heap w w_ (HP.gg b c :: M) → Calls Try.prog 14 #[.pointer (some ⟨b, 0, none⟩), .int .u64 (F + 16), .int .i64 4] w_ fun r w' => r = .returned (.int .u64 3) ∧ Heap w w' (HP.gg b c :: M)) := hide fun w_ M hh => by
                  have := next_h hh (F + 16) 4 (by omega) (by omega)
                  rw [ho, hns] at this
                  exact this
                clear hrs ho hns
                have hJ := hK
                go_wp2_with fail
                refine wp_region_F (fun w_ => Heap w w_ [HP.gg b c, HP.blk bm #[.int .u64 0, .int .u64 0, .int .u64 0, .int .u64 0, .int .i64 0, .int .u64 0] 31]) (fun _ _ => True) (fun k_ v_ w_ => match k_ with
                    | 0 => v_ = .pointer (some ⟨b, 0, none⟩)
                    | 1 => v_ = .int .u64 F
                    | 2 => v_ = .int .u64 (F + 16)
                    | 3 => v_ = .int .u64 3
                    | 4 => v_ = .bool true
                    | 5 => v_ = .bool true
                    | 6 => v_ = .pointer (some ⟨b, 0, none⟩)
                    | 7 => v_ = .agg #[.int .u64 0, .int .u64 0, .int .u64 0, .int .u64 0, .int .i64 0, .int .u64 0]
                    | 8 => v_ = .agg #[.int .u64 0, .int .u64 0, .int .u64 0, .int .u64 0, .int .i64 0, .int .u64 0]
                    | 9 => v_ = .bool true
                    | 10 => v_ = .bool true
                    | _ => v_ = .bool true) fol (by kernel_rfl) ?_ ?_ ?_ ?_
                · exact hJ.drew
                · intro k_ v_ w_ w2_ h1 hg
                  split at h1 <;> exact h1
                · intro vals
                  show wpG _ _ _ _ _ _ 0 (_ :: _) _
                  refine wpG_cons (gval (.pointer (some ⟨b, 0, none⟩)) (fun _ => trivial) fun w_ hJ hd => ?_) ?_
                  · exact ⟨by kernel_rfl, by kernel_rfl, rfl⟩
                  refine wpG_cons (gval (.int .u64 F) (fun _ => trivial) fun w_ hJ hd => ?_) ?_
                  · exact ⟨by kernel_rfl, by kernel_rfl, rfl⟩
                  refine wpG_cons (gop (binOp .add 22 (.int .u64 F) (.int .u64 16)) (.int .u64 (F + 16)) (fun _ => trivial) fun w_ hJ hd => ?_) ?_
                  · have e1 : vals 1 = _ := hd 1 (by decide) (by kernel_rfl)
                    rw [e1]
                    exact ⟨by kernel_rfl, by kernel_rfl, add16 (unhide HF).1 (unhide HF).2.1 w_, rfl⟩
                  refine wpG_cons (gcall 14 #[.pointer (some ⟨b, 0, none⟩), .int .u64 (F + 16), .int .i64 4] fun w_ hJ hd => ?_) ?_
                  · have e0 : vals 0 = _ := hd 0 (by decide) (by kernel_rfl)
                    have e2 : vals 2 = _ := hd 2 (by decide) (by kernel_rfl)
                    rw [e0, e2]
                    exact ⟨by kernel_rfl, by kernel_rfl, (unhide HN _ _ hJ).mono fun e w2 ⟨he, hh⟩ => ⟨_, he, hh, trivial, rfl⟩⟩
                  refine wpG_cons (gop (binOp .eql 22 (.int .u64 3) (.int .u64 3)) (.bool true) (fun _ => trivial) fun w_ hJ hd => ?_) ?_
                  · have e3 : vals 3 = _ := hd 3 (by decide) (by kernel_rfl)
                    rw [e3]
                    exact ⟨by kernel_rfl, by kernel_rfl, eq22 _ w_, rfl⟩
                  refine wpG_cons (gval (.bool true) (fun _ => trivial) fun w_ hJ hd => ?_) ?_
                  · have e4 : vals 4 = _ := hd 4 (by decide) (by kernel_rfl)
                    rw [e4]
                    exact ⟨by kernel_rfl, by kernel_rfl, rfl⟩
                  refine wpG_cons (gval (.pointer (some ⟨b, 0, none⟩)) (fun _ => trivial) fun w_ hJ hd => ?_) ?_
                  · have e5 : vals 5 = _ := hd 5 (by decide) (by kernel_rfl)
                    rw [e5]
                    exact ⟨by kernel_rfl, by kernel_rfl, rfl⟩
                  refine wpG_cons (gcall 11 #[.pointer (some ⟨b, 0, none⟩)] fun w_ hJ hd => ?_) ?_
                  · have e6 : vals 6 = _ := hd 6 (by decide) (by kernel_rfl)
                    have e5 : vals 5 = _ := hd 5 (by decide) (by kernel_rfl)
                    rw [e6, e5]
                    exact ⟨by kernel_rfl, by kernel_rfl, (mark_h hJ).mono fun e w2 ⟨he, hh⟩ => ⟨_, he, hh, trivial, congrArg Value.agg (unhide HMz)⟩⟩
                  refine wpG_cons (gop (Instr.loadAt 31 (.pointer (some ⟨bm, 0, none⟩))) (.agg #[.int .u64 0, .int .u64 0, .int .u64 0, .int .u64 0, .int .i64 0, .int .u64 0]) (fun _ => trivial) fun w_ hJ hd => ?_) ?_
                  · have e5 : vals 5 = _ := hd 5 (by decide) (by kernel_rfl)
                    rw [e5]
                    exact ⟨by kernel_rfl, by kernel_rfl, load_mk hJ.f2.heap, rfl⟩
                  refine wpG_cons (gop ((do eqGuard .eql 31 (.tmp 113) (.tmp 114) (.agg #[.int .u64 0, .int .u64 0, .int .u64 0, .int .u64 0, .int .i64 0, .int .u64 0]) (.agg #[.int .u64 0, .int .u64 0, .int .u64 0, .int .u64 0, .int .i64 0, .int .u64 0]); binOp .eql 31 (.agg #[.int .u64 0, .int .u64 0, .int .u64 0, .int .u64 0, .int .i64 0, .int .u64 0]) (.agg #[.int .u64 0, .int .u64 0, .int .u64 0, .int .u64 0, .int .i64 0, .int .u64 0]))) (.bool true) (fun _ => trivial) fun w_ hJ hd => ?_) ?_
                  · have e7 : vals 7 = _ := hd 7 (by decide) (by kernel_rfl)
                    have e8 : vals 8 = _ := hd 8 (by decide) (by kernel_rfl)
                    have e5 : vals 5 = _ := hd 5 (by decide) (by kernel_rfl)
                    rw [e7, e8, e5]
                    exact ⟨by kernel_rfl, by kernel_rfl, eqg31 (eql31 _ _ _ _ _ _ ⟨by decide, by decide, by decide, by decide, by decide, by decide⟩ w_), rfl⟩
                  refine wpG_cons (gval (.bool true) (fun _ => trivial) fun w_ hJ hd => ?_) ?_
                  · have e5 : vals 5 = _ := hd 5 (by decide) (by kernel_rfl)
                    have e9 : vals 9 = _ := hd 9 (by decide) (by kernel_rfl)
                    rw [e5, e9]
                    exact ⟨by kernel_rfl, by kernel_rfl, rfl⟩
                  refine wpG_cons (gval (.bool true) (fun _ => trivial) fun w_ hJ hd => ?_) wpG_nil
                  · have e10 : vals 10 = _ := hd 10 (by decide) (by kernel_rfl)
                    rw [e10]
                    exact ⟨by kernel_rfl, by kernel_rfl, rfl⟩
                · intro vals w_ hJ hf
                  have e0 : vals 0 = _ := hf 0 (by decide)
                  have e1 : vals 1 = _ := hf 1 (by decide)
                  have e2 : vals 2 = _ := hf 2 (by decide)
                  have e3 : vals 3 = _ := hf 3 (by decide)
                  have e4 : vals 4 = _ := hf 4 (by decide)
                  have e5 : vals 5 = _ := hf 5 (by decide)
                  have e6 : vals 6 = _ := hf 6 (by decide)
                  have e7 : vals 7 = _ := hf 7 (by decide)
                  have e8 : vals 8 = _ := hf 8 (by decide)
                  have e9 : vals 9 = _ := hf 9 (by decide)
                  have e10 : vals 10 = _ := hf 10 (by decide)
                  have e11 : vals 11 = _ := hf 11 (by decide)
                  simp only [fillG, Nat.zero_add, Nat.reduceAdd, e0, e1, e2, e3, e4, e5, e6, e7, e8, e9, e10, e11, Act.put, List.setIfInBounds_toArray, List.set_cons_succ, List.set_cons_zero]
                  clear e0 e1 e2 e3 e4 e5 e6 e7 e8 e9 e10 e11 hf
                  go_wp2
                  go_ret
                  exact ⟨rfl, hJ.below⟩
              | succ s =>
                obtain ⟨ho, hrs2⟩ := hrs.back1 (unhide HF).2.2 (by omega) (by omega)
                have Hrs2 := hide hrs2
                have HN : Hid (∀ w_ M, Heap w w_ (HP.gg b c :: M) → Calls Try.prog 14 #[.pointer (some ⟨b, 0, none⟩), .int .u64 (F + 16), .int .i64 4] w_ fun r w' => r = .returned (.int .u64 (F + 2 * s + 2)) ∧ Heap w w' (HP.gg b (nSt c (F + 16) 4) :: M)) := hide fun w_ M hh => by
                  have := next_h hh (F + 16) 4 (by omega) (by omega)
                  rw [ho] at this
                  exact this
                clear hrs hrs2 ho
                generalize nSt c (F + 16) 4 = c2 at *
                have hs1 : ((s + 1 : Nat) : Int) - 1 = (s : Int) := by omega
                rw [hs1]
                go_wp2_with fail
                refine (unhide HN _ _ hK).mono ?_
                rintro r w8 ⟨rfl, h8⟩
                clear HN hK
                go_wp2
                exact ⟨⟨s, c2, by go_num, by omega, unhide Hrs2, h8⟩, by first | (simp [intOf]; done) | (simp [intOf]; omega)⟩
end Go.Proofs.Ytabkkeniaepibaa
