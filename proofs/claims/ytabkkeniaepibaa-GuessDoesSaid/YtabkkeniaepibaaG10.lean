/- Layer 18: what goes one way again and again is guessed so: the walk. -/
import Derived.Test.YtabkkeniaepibaaG9
namespace Go.Proofs.Ytabkkeniaepibaa
open Go.RowKit

def hs : Nat → Int
  | 0 => 0
  | k + 1 => hs k * 2 % 64 + 1
theorem hs6 : ∀ k, hs (k + 6) = 63 := by
  intro k
  induction k with
  | zero => rfl
  | succ k ih => rw [show k + 1 + 6 = k + 6 + 1 by omega, hs, ih]; rfl
/-- After so many branches one way. -/
structure Sd (taken : Bool) (pc tgt : Int) (k : Nat) (c : St) : Prop where
  size : c 116 = 0
  idle : taken = false → rk c pc = 0
  row : taken = true → 0 < k → rk c pc = 1 ∧ c (rowN pc * 3 + 1) = tgt
  hist : taken = true → c 117 = hs k
  ctr : taken = true → 6 ≤ k → min ((k : Int) - 6) 3 ≤ c (48 + ctrN pc 63)
theorem lCtr_117 (c : St) (k : Nat) : lCtr c k true 117 = c 117 * 2 % 64 + 1 := by simp [lCtr, upd]
theorem lCtr_k (c : St) (k : Nat) (h : k < 64) : lCtr c k true (48 + k) = min (c (48 + k) + 1) 3 := by
  unfold lCtr
  rw [if_pos rfl]
  unfold upd
  rw [if_neg (by omega), if_pos rfl]
theorem lCtr_116 (c : St) (k : Nat) (tk : Bool) (h : k < 64) : lCtr c k tk 116 = c 116 := by
  unfold lCtr
  split
  · unfold upd; rw [if_neg (by omega), if_neg (by omega), if_neg (by omega)]
  · split
    · unfold upd; rw [if_neg (by omega), if_neg (by omega)]
    · unfold upd; rw [if_neg (by omega)]
theorem setRow_rk (c : St) (pc t k : Int) : rk (setRow c (rowN pc) pc t k) pc = k ∧ setRow c (rowN pc) pc t k (rowN pc * 3 + 1) = t := by
  have h := rowN_lt pc
  have e0 : setRow c (rowN pc) pc t k (rowN pc * 3) = pc := by
    unfold setRow upd
    rw [if_neg (by omega), if_neg (by omega), if_pos rfl]
  have e2 : setRow c (rowN pc) pc t k (rowN pc * 3 + 2) = k := by
    unfold setRow upd
    rw [if_pos rfl]
  constructor
  · unfold rk
    rw [e0, if_pos rfl, e2]
  · unfold setRow upd
    rw [if_neg (by omega), if_pos rfl]
theorem Sd.start (taken : Bool) (pc tgt s : Int) : Sd taken pc tgt 0 (c0 s) :=
  ⟨by unfold c0; rw [if_neg (by omega)], fun _ => rk_c0 _ _, fun _ h => by omega, fun _ => by unfold c0 hs; rw [if_neg (by omega)], fun _ h => by omega⟩
theorem Sd.step {taken : Bool} {pc tgt : Int} {k : Nat} {c : St} (h : Sd taken pc tgt k c) (hI : GI c) : Sd taken pc tgt (k + 1) (lSt c pc 1 taken tgt) := by
  have hr := rowN_lt pc
  have hc := ctrN_lt pc (c 117)
  have e : lSt c pc 1 taken tgt = lCtr (lRow c pc 1 taken tgt) (ctrN pc (c 117)) taken := by simp [lSt]
  rw [e]
  have h116 : lRow c pc 1 taken tgt 116 = c 116 := by
    unfold lRow; split
    · exact setRow_out _ (by omega) hr
    · rfl
  cases taken with
  | false =>
    refine ⟨by rw [lCtr_116 _ _ _ hc, h116]; exact h.size, fun _ => ?_, fun h => (by cases h), fun h => (by cases h), fun h => (by cases h)⟩
    rw [rk_congr pc fun i hi => lCtr_out _ _ _ i hi]
    have e2 : lRow c pc 1 false tgt = c := by simp [lRow]
    rw [e2]
    exact h.idle rfl
  | true =>
    have e2 : lRow c pc 1 true tgt = setRow c (rowN pc) pc tgt 1 := by simp [lRow]
    rw [e2] at h116 ⊢
    obtain ⟨r1, r2⟩ := setRow_rk c pc tgt 1
    refine ⟨by rw [lCtr_116 _ _ _ hc, h116]; exact h.size, fun h => (by cases h), fun _ _ => ⟨?_, ?_⟩, fun _ => ?_, fun _ hk => ?_⟩
    · rw [rk_congr pc fun i hi => lCtr_out _ _ _ i hi]; exact r1
    · rw [lCtr_out _ _ _ _ (by omega)]; exact r2
    · rw [lCtr_117, setRow_out _ (by omega) hr, h.hist rfl]; rfl
    · have h63 := ctrN_lt pc 63
      by_cases h6 : 6 ≤ k
      · have e3 : c 117 = 63 := by
          rw [h.hist rfl, show k = (k - 6) + 6 by omega]
          exact hs6 _
        have := h.ctr rfl h6
        rw [e3, lCtr_k _ _ h63, setRow_out _ (by omega) hr]
        omega
      · have hG : GI (lCtr (setRow c (rowN pc) pc tgt 1) (ctrN pc (c 117)) true) ∨ True := .inr trivial
        have h0 : 0 ≤ lCtr (setRow c (rowN pc) pc tgt 1) (ctrN pc (c 117)) true (48 + ctrN pc 63) := by
          have h1 := hI.ctr _ h63
          have h2 := hI.ctr _ hc
          unfold lCtr
          rw [if_pos rfl]
          unfold upd
          rw [if_neg (by omega)]
          split
          · rw [setRow_out _ (by omega) hr]; omega
          · rw [if_neg (by omega), setRow_out _ (by omega) hr]; omega
        omega
theorem Sd.out {taken : Bool} {pc tgt size : Int} {k : Nat} {c : St} (h : Sd taken pc tgt k c) (hk : 10 ≤ k) : nOut c pc size = (if taken then tgt else behind pc size) ∧ nSt c pc size = c := by
  cases taken with
  | false =>
    have := h.idle rfl
    exact ⟨by unfold nOut; rw [this]; simp, by unfold nSt; rw [this]; simp⟩
  | true =>
    obtain ⟨r1, r2⟩ := h.row rfl (by omega)
    have e3 : c 117 = 63 := by
      rw [h.hist rfl, show k = (k - 6) + 6 by omega]
      exact hs6 _
    have hc := h.ctr rfl (by omega)
    refine ⟨?_, by unfold nSt; rw [r1]; simp⟩
    unfold nOut
    rw [if_pos r1, e3, if_pos (by omega), r2, if_pos rfl]
theorem load_ctl {w : World} {g : Nat} {d : St} (h : w.heap[g]? = some (.cells (ctl d).toArray 43 (0, 0))) : (Instr.loadAt 43 (.pointer (some ⟨g, 0, none⟩))).run Try.prog w = .ok (.agg (ctl d).toArray) w :=
  run_loadAt_mid w g 0 43 (ctl d) _ (range_blk h 0 64 _ (by rw [List.drop_zero]; exact List.take_of_length_le (by rw [ctl_len]; exact Nat.le_refl _))) Try.underlying43 rfl (by rw [ctl_len]; exact isz43)
theorem ctl_same {d : St} (h : GI d) (w : World) : (binOp .eql 43 (.agg (ctl d).toArray) (.agg (ctl d).toArray)).run Try.prog w = .ok (.bool true) w :=
  run_eql_same flat43 named43 kt43 (formed43 d) (fits_ctl h)

set_option maxRecDepth 100000 in
set_option maxHeartbeats 4000000 in
theorem steady_walk (seed : Int) (s0 : 0 ≤ seed) (s1 : seed < 18446744073709551616) (pc : Int) (p0 : 0 ≤ pc) (p1 : pc < 18446744073709551616) (tgt : Int) (t0 : 0 ≤ tgt) (t1 : tgt < 18446744073709551616) (size : Int) (taken : Bool) (times : Int) (m0 : -9223372036854775808 ≤ times) (m1 : times < 9223372036854775808) (w : World) :
    Calls Try.prog 4 #[.int .u64 seed, .int .u64 pc, .int .u64 tgt, .int .i64 size, .bool taken, .int .i64 times] w fun e w' => e = .returned (.bool true) ∧ Below w.heap.size w w' := by
  go_enter Try.func4, Try.ntmps4
  go_wp2_with fail
  refine (fixed_h (Heap.nil w)).mono ?_
  rintro r w1 ⟨rfl, h1⟩
  go_wp2_with fail
  refine (new_h h1 seed s0 s1).mono ?_
  rintro r w2 ⟨b, rfl, h2⟩
  clear h1
  go_upto_if 26 with fail
  go_cut [14] (fun s14 wx => s14 = .int .u64 (behind pc size) ∧ wx = w2)
  case first =>
    by_cases q : size = 2
    · have z : (size == 2) = true := beq_iff_eq.2 q
      go_wp2
      go_meet
      exact ⟨by unfold behind; rw [if_pos q], rfl⟩
    · have z : (size == 2) = false := beq_eq_false_iff_ne.2 q
      go_wp2
      go_meet
      exact ⟨by unfold behind; rw [if_neg q], rfl⟩
  case rest =>
    obtain ⟨rfl, hw⟩ := hcut
    rw [hw]
    clear hw
    have hno : nOut (c0 seed) pc size = behind pc size := by unfold nOut; rw [rk_c0]; simp
    have hns : nSt (c0 seed) pc size = c0 seed := by unfold nSt; rw [rk_c0]; simp
    go_wp2_with fail
    refine (next_h h2 pc size p0 p1).mono ?_
    rintro r w3 ⟨rfl, h3⟩
    rw [hns] at h3
    rw [hno]
    clear hno hns h2
    obtain ⟨m, hm⟩ : ∃ m, times.tmod 50 = m := ⟨_, rfl⟩
    have hm50 : m < 50 := by rw [← hm]; exact Int.tmod_lt_of_pos _ (by decide)
    go_upto_if 38 with fail
    go_cut [15] (fun s15 wx => ∃ n : Nat, s15 = .int .i64 n ∧ (10 ≤ n ∧ n ≤ 50) ∧ wx = w3)
    case first =>
      by_cases q : m < 10
      · have z : decide (m < 10) = true := decide_eq_true q
        go_wp2
        go_meet
        exact ⟨10, rfl, by omega, rfl⟩
      · have z : decide (m < 10) = false := decide_eq_false q
        go_wp2
        go_meet
        exact ⟨m.toNat, by rw [Int.toNat_of_nonneg (by omega)], by omega, rfl⟩
    case rest =>
      obtain ⟨n, rfl, ⟨hn, hn50⟩, hw⟩ := hcut
      rw [hw]
      clear hw hm
      go_wp2
      go_loopw [16] (fun i wr => ∃ (k : Nat) (c : St), i = .int .i64 k ∧ k ≤ n ∧ Sd taken pc tgt k c ∧ Heap w wr [HP.gg b c]) (fun i _ => n - (intOf i).toNat)
      case atStart => exact ⟨0, c0 seed, rfl, Nat.zero_le _, Sd.start _ _ _ _, h3⟩
      case round =>
        obtain ⟨k, c, rfl, hk, hsd, hJ⟩ := hrel
        clear h3
        have Hsd := hide hsd
        clear hsd
        by_cases hlt : k < n
        · have hI := hide hJ.ggI
          go_wp2_with fail
          refine (learn_h hJ pc 1 taken tgt p0 p1 t0 t1).mono ?_
          rintro r w5 ⟨rfl, h5⟩
          clear hJ
          go_wp2
          exact ⟨⟨k + 1, _, by go_num, by omega, (unhide Hsd).step (unhide hI), h5⟩, by simp [intOf]; omega⟩
        · obtain rfl : k = n := by omega
          obtain ⟨ho, hns⟩ := (unhide Hsd).out (size := size) hn
          have hsz := (unhide Hsd).size
          obtain ⟨v, hv⟩ : ∃ v, (if taken then tgt else behind pc size) = v := ⟨_, rfl⟩
          rw [hv] at ho
          have HN : Hid (∀ w_ M, Heap w w_ (HP.gg b c :: M) → Calls Try.prog 14 #[.pointer (some ⟨b, 0, none⟩), .int .u64 pc, .int .i64 size] w_ fun r w' => r = .returned (.int .u64 v) ∧ Heap w w' (HP.gg b c :: M)) := hide fun w_ M hh => by
            have := next_h hh pc size p0 p1
            rw [ho, hns] at this
            exact this
          have Hv := hide hv
          have Hsz := hide hsz
          clear ho hns hv hsz
          go_upto_if 50 with fail
          go_cut [17] (fun s17 wx => s17 = .int .u64 v ∧ wx = wr)
          case first =>
            cases taken with
            | true =>
              go_wp2
              go_meet
              exact ⟨by rw [← unhide Hv]; rfl, rfl⟩
            | false =>
              go_wp2
              go_meet
              exact ⟨by rw [← unhide Hv]; rfl, rfl⟩
          case rest =>
            obtain ⟨rfl, hw⟩ := hcut
            rw [hw]
            clear hw
            go_wp2_with fail
            refine (unhide HN wr _ hJ).mono ?_
            rintro r w6 ⟨rfl, h6⟩
            have z : (v != v) = false := by simp
            go_wp2_with fail
            refine (mark_h h6).mono ?_
            rintro r w7 ⟨rfl, h7⟩
            unfold mkv
            rw [unhide Hsz]
            have hfl : ∀ w_, (Instr.field 31 (.agg #[.int .u64 (c 112), .int .u64 (c 113), .int .u64 (c 114), .int .u64 (c 115), .int .i64 0, .int .u64 (c 117)]) 1).run Try.prog w_ = .ok (.int .i64 0) w_ := fun w_ => by kernel_rfl
            clear h6 hJ HN
            go_wp2_with fail
            refine (counters_h h7).mono ?_
            rintro r w8 ⟨rfl, h8⟩
            go_wp2_with (refine wpList_store_mid rfl 43 (.tmp 18) (.tmp 65) rfl w8.heap.size 0 (ctl c).toArray rfl rfl ?_ (by rw [List.size_toArray, ctl_len]; exact isz43) (ctl_one _) ?_
                         rotate_left
                         refine unhide ?_)
            rotate_left
            · exact there_new _ _ _ (Eq.trans (rfl : _ = 64) (by rw [List.size_toArray, ctl_len]))
            generalize hw1 : World.setCells _ w8.heap.size 0 (ctl c).toArray.toList = w9
            have h9 : Heap w w9 [HP.blk w8.heap.size (ctl c).toArray 43, HP.gg b c] := by
              rw [← hw1]
              exact h8.clone _ _ _ (Eq.trans (rfl : _ = 64) (by rw [ctl_len]))
            clear hw1 h8 h7
            generalize w8.heap.size = bc at *
            refine hide ?_
            go_wp2_with fail
            refine (learn_h h9.f2 pc 2 false tgt p0 p1 t0 t1).mono ?_
            rintro r w10 ⟨rfl, h10⟩
            have hst : lSt c pc 2 false tgt = setRow c (rowN pc) pc tgt 2 := by simp [lSt, lRow]
            rw [hst] at h10
            have hct : ctl c = ctl (setRow c (rowN pc) pc tgt 2) := ctl_eq fun i h1 h2 => (setRow_out i h1 (rowN_lt pc)).symm
            rw [hct] at h10
            obtain ⟨r1, r2⟩ := setRow_rk c pc tgt 2
            clear h9
            have h9 := h10
            clear h10 hst hct
            generalize setRow c (rowN pc) pc tgt 2 = d at *
            have HN2 : Hid (∀ w_ M, Heap w w_ (HP.gg b d :: M) → Calls Try.prog 14 #[.pointer (some ⟨b, 0, none⟩), .int .u64 pc, .int .i64 size] w_ fun r w' => r = .returned (.int .u64 tgt) ∧ Heap w w' (HP.gg b d :: M)) := hide fun w_ M hh => by
              have := next_h hh pc size p0 p1
              rw [show nOut d pc size = tgt from by unfold nOut; rw [r1, r2]; simp, show nSt d pc size = d from by unfold nSt; rw [r1]; simp] at this
              exact this
            have HE := hide (ctl_same h9.ggI)
            clear r1 r2
            go_wp2_with fail
            refine wp_region_F (fun w_ => Heap w w_ [HP.gg b d, HP.blk bc (ctl d).toArray 43]) (fun _ _ => True) (fun k_ v_ w_ => match k_ with
                | 0 => v_ = .pointer (some ⟨b, 0, none⟩)
                | 1 => v_ = .int .u64 pc
                | 2 => v_ = .int .i64 size
                | 3 => v_ = .int .u64 tgt
                | 4 => v_ = .int .u64 tgt
                | 5 => v_ = .bool true
                | 6 => v_ = .bool true
                | 7 => v_ = .pointer (some ⟨b, 0, none⟩)
                | 8 => v_ = .agg (ctl d).toArray
                | 9 => v_ = .agg (ctl d).toArray
                | 10 => v_ = .bool true
                | 11 => v_ = .bool true
                | _ => v_ = .bool true) fol (by kernel_rfl) ?_ ?_ ?_ ?_
            · exact h9.drew
            · intro k_ v_ w_ w2_ h1 hg
              split at h1 <;> exact h1
            · intro vals
              show wpG _ _ _ _ _ _ 0 (_ :: _) _
              refine wpG_cons (gval (.pointer (some ⟨b, 0, none⟩)) (fun _ => trivial) fun w_ hJ hd => ?_) ?_
              · exact ⟨by kernel_rfl, by kernel_rfl, rfl⟩
              refine wpG_cons (gval (.int .u64 pc) (fun _ => trivial) fun w_ hJ hd => ?_) ?_
              · exact ⟨by kernel_rfl, by kernel_rfl, rfl⟩
              refine wpG_cons (gval (.int .i64 size) (fun _ => trivial) fun w_ hJ hd => ?_) ?_
              · exact ⟨by kernel_rfl, by kernel_rfl, rfl⟩
              refine wpG_cons (gcall 14 #[.pointer (some ⟨b, 0, none⟩), .int .u64 pc, .int .i64 size] fun w_ hJ hd => ?_) ?_
              · have e0 : vals 0 = _ := hd 0 (by decide) (by kernel_rfl)
                have e1 : vals 1 = _ := hd 1 (by decide) (by kernel_rfl)
                have e2 : vals 2 = _ := hd 2 (by decide) (by kernel_rfl)
                rw [e0, e1, e2]
                exact ⟨by kernel_rfl, by kernel_rfl, (unhide HN2 w_ _ hJ).mono fun e w2 ⟨he, hh⟩ => ⟨_, he, hh, trivial, rfl⟩⟩
              refine wpG_cons (gval (.int .u64 tgt) (fun _ => trivial) fun w_ hJ hd => ?_) ?_
              · exact ⟨by kernel_rfl, by kernel_rfl, rfl⟩
              refine wpG_cons (gop (binOp .eql 22 (.int .u64 tgt) (.int .u64 tgt)) (.bool true) (fun _ => trivial) fun w_ hJ hd => ?_) ?_
              · have e3 : vals 3 = _ := hd 3 (by decide) (by kernel_rfl)
                have e4 : vals 4 = _ := hd 4 (by decide) (by kernel_rfl)
                rw [e3, e4]
                exact ⟨by kernel_rfl, by kernel_rfl, eq22 _ w_, rfl⟩
              refine wpG_cons (gval (.bool true) (fun _ => trivial) fun w_ hJ hd => ?_) ?_
              · have e5 : vals 5 = _ := hd 5 (by decide) (by kernel_rfl)
                rw [e5]
                exact ⟨by kernel_rfl, by kernel_rfl, rfl⟩
              refine wpG_cons (gval (.pointer (some ⟨b, 0, none⟩)) (fun _ => trivial) fun w_ hJ hd => ?_) ?_
              · have e6 : vals 6 = _ := hd 6 (by decide) (by kernel_rfl)
                rw [e6]
                exact ⟨by kernel_rfl, by kernel_rfl, rfl⟩
              refine wpG_cons (gcall 22 #[.pointer (some ⟨b, 0, none⟩)] fun w_ hJ hd => ?_) ?_
              · have e7 : vals 7 = _ := hd 7 (by decide) (by kernel_rfl)
                have e6 : vals 6 = _ := hd 6 (by decide) (by kernel_rfl)
                rw [e7, e6]
                exact ⟨by kernel_rfl, by kernel_rfl, (counters_h hJ).mono fun e w2 ⟨he, hh⟩ => ⟨_, he, hh, trivial, rfl⟩⟩
              refine wpG_cons (gop (Instr.loadAt 43 (.pointer (some ⟨bc, 0, none⟩))) (.agg (ctl d).toArray) (fun _ => trivial) fun w_ hJ hd => ?_) ?_
              · have e6 : vals 6 = _ := hd 6 (by decide) (by kernel_rfl)
                rw [e6]
                exact ⟨by kernel_rfl, by kernel_rfl, load_ctl hJ.f2.heap, rfl⟩
              refine wpG_cons (gop ((do eqGuard .eql 43 (.tmp 78) (.tmp 79) (.agg (ctl d).toArray) (.agg (ctl d).toArray); binOp .eql 43 (.agg (ctl d).toArray) (.agg (ctl d).toArray))) (.bool true) (fun _ => trivial) fun w_ hJ hd => ?_) ?_
              · have e8 : vals 8 = _ := hd 8 (by decide) (by kernel_rfl)
                have e9 : vals 9 = _ := hd 9 (by decide) (by kernel_rfl)
                have e6 : vals 6 = _ := hd 6 (by decide) (by kernel_rfl)
                rw [e8, e9, e6]
                exact ⟨by kernel_rfl, by kernel_rfl, eqg43 (unhide HE w_), rfl⟩
              refine wpG_cons (gval (.bool true) (fun _ => trivial) fun w_ hJ hd => ?_) ?_
              · have e6 : vals 6 = _ := hd 6 (by decide) (by kernel_rfl)
                have e10 : vals 10 = _ := hd 10 (by decide) (by kernel_rfl)
                rw [e6, e10]
                exact ⟨by kernel_rfl, by kernel_rfl, rfl⟩
              refine wpG_cons (gval (.bool true) (fun _ => trivial) fun w_ hJ hd => ?_) wpG_nil
              · have e11 : vals 11 = _ := hd 11 (by decide) (by kernel_rfl)
                rw [e11]
                exact ⟨by kernel_rfl, by kernel_rfl, rfl⟩
            · intro vals w_ hJ hf
              have e0 : vals 0 = _ := hf 0 (by decide)
              have e1 : vals 1 = _ := hf 1 (by decide)
              have e2 : vals 2 = _ := hf 2 (by decide)
              have e3 : vals 3 = _ := hf 3 (by decide)
              have e4 : vals 4 = _ := hf 4 (by decide)
              have e5 : vals 5 = _ := hf 5 (by decide)
              have e6 : vals 6 = _ := hf 6 (by decide)
              have e7 : vals 7 = _ := hf 7 (by decide)
              have e8 : vals 8 = _ := hf 8 (by decide)
              have e9 : vals 9 = _ := hf 9 (by decide)
              have e10 : vals 10 = _ := hf 10 (by decide)
              have e11 : vals 11 = _ := hf 11 (by decide)
              have e12 : vals 12 = _ := hf 12 (by decide)
              simp only [fillG, Nat.zero_add, Nat.reduceAdd, e0, e1, e2, e3, e4, e5, e6, e7, e8, e9, e10, e11, e12, Act.put, List.setIfInBounds_toArray, List.set_cons_succ, List.set_cons_zero]
              clear e0 e1 e2 e3 e4 e5 e6 e7 e8 e9 e10 e11 e12 hf
              go_wp2
              go_ret
              exact ⟨rfl, hJ.below⟩
end Go.Proofs.Ytabkkeniaepibaa
