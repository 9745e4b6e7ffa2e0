/- The reference's port: writing, reading. -/
import Derived.Test.YtaholijnfekkgaaU4
namespace Go.Proofs.Ytaholijnfekkgaa
open Go.RowKit

section
variable {w w' : World} {b : Nat} {qv sv : Value} {q s : List Int} {rd : Nat} {wa lo : Bool} {sc : Int}
theorem writeR_any (h : RU w b qv sv q s rd wa lo sc) (hs : s.length < 140737488355328) (at_ size v : Int) (a0 : 0 ≤ at_) (v0 : 0 ≤ v) (v1 : v < 18446744073709551616) :
    Calls Try.prog 11 #[.pointer (some ⟨b, 0, none⟩), .int .u64 at_, .int .i64 size, .int .u64 v] w fun e w' =>
    e = .returned (.bool (rOk at_ size)) ∧ ∃ sv', RU w' b qv sv' q (wS s at_ size v) rd (wWa wa at_ size v) lo (wSc sc at_ size v) ∧ Turn w w' (UC b qv sv) (UC b qv sv') := by
  obtain ⟨i0, hi, hz0, hz1, hz2⟩ := info_parts info5
  obtain ⟨A, cap, rfl, hcap⟩ := h.ss.parts
  have hc := cells6 h.heap
  have HT := Turn.rflR h
  by_cases hsz : size = 1
  case neg =>
    have e1 : rOk at_ size = false := by simp [rOk, hsz]
    have e2 : wS s at_ size v = s := by simp [wS, e1]
    have e3 : wWa wa at_ size v = wa := by simp [wWa, e1]
    have e4 : wSc sc at_ size v = sc := by simp [wSc, e1]
    rw [e1, e2, e3, e4]
    clear e1 e2 e3 e4
    go_enter Try.func11, Try.ntmps11
    go_wp2
    go_ret
    exact ⟨rfl, _, h, HT⟩
  subst hsz
  by_cases hat : 7 < at_
  · have hn : ¬ at_ ≤ 7 := by omega
    have e1 : rOk at_ 1 = false := by simp [rOk, hn]
    have e2 : wS s at_ 1 v = s := by simp [wS, e1]
    have e3 : wWa wa at_ 1 v = wa := by simp [wWa, e1]
    have e4 : wSc sc at_ 1 v = sc := by simp [wSc, e1]
    rw [e1, e2, e3, e4]
    clear e1 e2 e3 e4 hn
    go_enter Try.func11, Try.ntmps11
    go_wp2
    go_ret
    exact ⟨rfl, _, h, HT⟩
  have e1 : rOk at_ 1 = true := by simp [rOk]; omega
  rw [e1]
  have hcases : at_ = 0 ∨ at_ = 1 ∨ at_ = 7 ∨ ((at_ == 0) = false ∧ (at_ == 1) = false ∧ (at_ == 7) = false) := by
    simp only [beq_eq_false_iff_ne]; omega
  rcases hcases with rfl | rfl | rfl | ⟨n0, n1, n7⟩
  · have e2 : wS s 0 1 v = s ++ [v % 256] := by simp [wS, e1]
    have e3 : wWa wa 0 1 v = wa := by simp [wWa]
    have e4 : wSc sc 0 1 v = sc := by simp [wSc]
    rw [e2, e3, e4]
    have hone := bv_one [v % 256]
    have hv : v.toNat % 256 = (v % 256).toNat := by omega
    clear e1 e2 e3 e4
    go_enter Try.func11, Try.ntmps11
    go_wp2_with (at_builtin; refine wpList_append_sl rfl _ _ 35 rfl 5 i0 _ 1 1 Try.underlying35 hi hz0 hz1 hz2 rfl rfl rfl (h.ss.alloc _) (Sl.one w 5 (.int .u8 (v % 256))) hone (by omega) (by omega) ?_; intro v' w' hsl hgr hblk hsp; obtain ⟨A', cap', rfl, _⟩ := hsl.parts; have hc' := cells6 (b := b) (grown_other ((Below.heap_alloc w _ b (lt_of_heap h.heap)).trans h.heap) hgr (fun e => h.ns (spare_blk e))))
    go_ret
    obtain ⟨hU, hT⟩ := h.setS (s' := s ++ [v % 256]) (grown_trans (grown_alloc (grown_self w _) _) hgr) (by simpa [bv] using hsl) (Or.imp id (fun e => ⟨_, e, by simp⟩) hblk) (Or.imp id (Or.imp id (fun e => ⟨_, e, by simp⟩)) hsp)
      (fun y hy => by rcases List.mem_append.1 hy with h1 | h1; exact h.sb y h1; simp at h1; subst h1; omega)
    exact ⟨rfl, _, hU, hT⟩
  · have e2 : wS s 1 1 v = s := by simp [wS]
    have e3 : wWa wa 1 1 v = decide (v % 2 = 1) := by simp [wWa, e1]
    have e4 : wSc sc 1 1 v = sc := by simp [wSc]
    rw [e2, e3, e4]
    have hm : v % 2 = btv (decide (v % 2 = 1)) 0 := by
      unfold btv
      by_cases h2 : v % 2 = 1 <;> simp [h2]; omega
    have HU := hide (h.setF (off := 3) (x := .int .u64 (v % 2)) (rd' := rd) (wa' := decide (v % 2 = 1)) (lo' := lo) (sc' := sc) (by rw [← hm]; rfl) h.hr h.c0 h.c1)
    clear hm e1 e2 e3 e4
    go_enter Try.func11, Try.ntmps11
    go_wp2
    go_ret
    exact ⟨rfl, _, (unhide HU).1, (unhide HU).2⟩
  · have e2 : wS s 7 1 v = s := by simp [wS]
    have e3 : wWa wa 7 1 v = wa := by simp [wWa]
    have e4 : wSc sc 7 1 v = v % 256 := by simp [wSc, e1]
    rw [e2, e3, e4]
    have HU := hide (h.setF (off := 5) (x := .int .u64 (v % 256)) (rd' := rd) (wa' := wa) (lo' := lo) (sc' := v % 256) rfl h.hr (by omega) (by omega))
    clear e1 e2 e3 e4
    go_enter Try.func11, Try.ntmps11
    go_wp2
    go_ret
    exact ⟨rfl, _, (unhide HU).1, (unhide HU).2⟩
  · simp only [beq_eq_false_iff_ne] at n0 n1 n7
    have e2 : wS s at_ 1 v = s := by simp [wS, n0]
    have e3 : wWa wa at_ 1 v = wa := by simp [wWa, n1]
    have e4 : wSc sc at_ 1 v = sc := by simp [wSc, n7]
    rw [e2, e3, e4]
    clear e1 e2 e3 e4
    rw [← beq_eq_false_iff_ne] at n0 n1 n7
    go_enter Try.func11, Try.ntmps11
    go_wp2
    go_ret
    exact ⟨rfl, _, h, HT⟩


def rRd (q : List Int) (rd : Nat) (at_ size : Int) : Nat := if rOk at_ size = true ∧ at_ = 0 ∧ rd < q.length then rd + 1 else rd
theorem rQ_drop (q : List Int) (rd : Nat) (at_ size : Int) (h : rd ≤ q.length) : rQ (q.drop rd) at_ size = q.drop (rRd q rd at_ size) := by
  unfold rQ rRd
  by_cases h1 : rOk at_ size = true ∧ at_ = 0
  · rw [if_pos h1]
    by_cases h2 : rd < q.length
    · rw [if_pos ⟨h1.1, h1.2, h2⟩, List.tail_drop]
    · rw [if_neg (fun e => h2 e.2.2)]
      have : rd = q.length := by omega
      subst this
      simp
  · rw [if_neg h1, if_neg (fun e => h1 ⟨e.1, e.2.1⟩)]

theorem readR_any (h : RU w b qv sv q s rd wa lo sc) (hl : q.length < 140737488355328) (at_ size : Int) (a0 : 0 ≤ at_) :
    Calls Try.prog 13 #[.pointer (some ⟨b, 0, none⟩), .int .u64 at_, .int .i64 size] w fun e w' =>
    e = .returned (.tuple #[.int .u64 (rV (q.drop rd) wa lo sc at_ size), .bool (rOk at_ size)]) ∧ ∃ qv', RU w' b qv' sv q s (rRd q rd at_ size) wa (rLo lo at_ size) sc ∧ Turn w w' (UC b qv sv) (UC b qv' sv) := by
  have hc := cells6 h.heap
  have HU : Hid (∀ n, RU (w.drewN n) b qv sv q s rd wa lo sc ∧ Turn w (w.drewN n) (UC b qv sv) (UC b qv sv)) := fun n => ⟨h.quiet (grown_drewN (grown_self w none) n), Turn.quiet (grown_drewN (grown_self w none) n) h.lt⟩
  by_cases hsz : size = 1
  case neg =>
    have e1 : rOk at_ size = false := by simp [rOk, hsz]
    have e2 : rV (q.drop rd) wa lo sc at_ size = 0 := by simp [rV, e1]
    have e3 : rRd q rd at_ size = rd := by simp [rRd, e1]
    have e4 : rLo lo at_ size = lo := by simp [rLo, e1]
    rw [e1, e2, e3, e4]
    clear e1 e2 e3 e4
    go_enter Try.func13, Try.ntmps13
    go_wp2_with (first | (go_at_call 24; refine (some_any h 0).mono ?_; rintro e w2 ⟨rfl, m1, rfl⟩) | (go_at_call 19; refine (upR_any (h.quiet (grown_drewN (grown_self w none) _))).mono ?_; rintro e w2 ⟨rfl, m2, rfl⟩))
    go_ret2
    exact ⟨rfl, _, (unhide HU _).1, (unhide HU _).2⟩
  subst hsz
  by_cases hat : 7 < at_
  · have hn : ¬ at_ ≤ 7 := by omega
    have e1 : rOk at_ 1 = false := by simp [rOk, hn]
    have e2 : rV (q.drop rd) wa lo sc at_ 1 = 0 := by simp [rV, e1]
    have e3 : rRd q rd at_ 1 = rd := by simp [rRd, e1]
    have e4 : rLo lo at_ 1 = lo := by simp [rLo, e1]
    rw [e1, e2, e3, e4]
    have n0 : (at_ == 0) = false := by rw [beq_eq_false_iff_ne]; omega
    have n1 : (at_ == 1) = false := by rw [beq_eq_false_iff_ne]; omega
    have n2 : (at_ == 2) = false := by rw [beq_eq_false_iff_ne]; omega
    have n3 : (at_ == 3) = false := by rw [beq_eq_false_iff_ne]; omega
    have n4 : (at_ == 4) = false := by rw [beq_eq_false_iff_ne]; omega
    have n5 : (at_ == 5) = false := by rw [beq_eq_false_iff_ne]; omega
    have n6 : (at_ == 6) = false := by rw [beq_eq_false_iff_ne]; omega
    have n7 : (at_ == 7) = false := by rw [beq_eq_false_iff_ne]; omega
    clear e1 e2 e3 e4 hn hat
    go_enter Try.func13, Try.ntmps13
    go_wp2_with (first | (go_at_call 24; refine (some_any h 0).mono ?_; rintro e w2 ⟨rfl, m1, rfl⟩) | (go_at_call 19; refine (upR_any (h.quiet (grown_drewN (grown_self w none) _))).mono ?_; rintro e w2 ⟨rfl, m2, rfl⟩))
    go_ret2
    exact ⟨rfl, _, (unhide HU _).1, (unhide HU _).2⟩
  have e1 : rOk at_ 1 = true := by simp [rOk]; omega
  rw [e1]
  have hcases : at_ = 0 ∨ at_ = 1 ∨ at_ = 2 ∨ at_ = 3 ∨ at_ = 4 ∨ at_ = 5 ∨ at_ = 6 ∨ at_ = 7 := by omega
  rcases hcases with rfl | rfl | rfl | rfl | rfl | rfl | rfl | rfl
  · have e4 : rLo lo 0 1 = lo := by simp [rLo]
    rw [e4]
    by_cases hd0 : rd < q.length
    · have e3 : rRd q rd 0 1 = rd + 1 := by simp [rRd, e1, hd0]
      obtain ⟨g, o, cap, rfl, hcap, hglt, hgb, hg, hgf⟩ := h.qs.cell (j := rd) (by simpa using hd0)
      rw [List.getElem?_map, List.getElem?_eq_getElem hd0] at hg
      change _ = some (Value.int .u8 q[rd]) at hg
      have hx := h.qb q[rd] (List.getElem_mem hd0)
      have e2 : rV (q.drop rd) wa lo sc 0 1 = q[rd] := by simp [rV, e1, List.headD_eq_head?_getD, List.head?_drop, hd0]
      rw [e2, e3]
      revert hg hx
      generalize q[rd] = x
      intro hg hx
      have hx2 : x % 18446744073709551616 = x := by omega
      have hx0 := hx.1
      have hx1 := hx.2
      have HU2 : Hid (∀ n, RU ((w.drewN n).setCell ⟨b, 2, none⟩ (.int .i64 ((rd : Int) + 1))) b (.slice (some ⟨g, o, none⟩) q.length cap) sv q s (rd + 1) wa lo sc ∧ Turn w ((w.drewN n).setCell ⟨b, 2, none⟩ (.int .i64 ((rd : Int) + 1))) (UC b (.slice (some ⟨g, o, none⟩) q.length cap) sv) (UC b (.slice (some ⟨g, o, none⟩) q.length cap) sv)) := fun n => by
        have h1 := (h.quiet (grown_drewN (grown_self w none) n)).setF (off := 2) (x := .int .i64 ((rd : Int) + 1)) (rd' := rd + 1) (wa' := wa) (lo' := lo) (sc' := sc) rfl (by omega) h.c0 h.c1
        exact ⟨h1.1, (Turn.quiet (grown_drewN (grown_self w none) n) h.lt).trans h1.2⟩
      have hd : decide (rd < q.length) = true := by simp [hd0]
      have r0 : (0 : Int) ≤ (rd : Int) := Int.natCast_nonneg _
      have r1 : (rd : Int) < (q.length : Int) := by omega
      clear e1 e2 e3 e4 hx hgb hglt
      go_enter Try.func13, Try.ntmps13
      go_wp2_with (first | (go_at_call 24; refine (some_any h 0).mono ?_; rintro e w2 ⟨rfl, m1, rfl⟩; rw [hd]) | (go_at_call 19; refine (upR_any (h.quiet (grown_drewN (grown_self w none) _))).mono ?_; rintro e w2 ⟨rfl, m2, rfl⟩; rw [hd]))
      go_quiet (fail)
      go_wp2
      go_ret2
      exact ⟨rfl, _, (unhide HU2 _).1, (unhide HU2 _).2⟩
    · have e3 : rRd q rd 0 1 = rd := by simp [rRd, hd0]
      have e2 : rV (q.drop rd) wa lo sc 0 1 = 0 := by
        have : q.drop rd = [] := List.drop_eq_nil_of_le (by omega)
        simp [rV, this]
      rw [e2, e3]
      have hd : decide (rd < q.length) = false := by simp; omega
      clear e1 e2 e3 e4 hd0
      go_enter Try.func13, Try.ntmps13
      go_wp2_with (first | (go_at_call 24; refine (some_any h 0).mono ?_; rintro e w2 ⟨rfl, m1, rfl⟩; rw [hd]) | (go_at_call 19; refine (upR_any (h.quiet (grown_drewN (grown_self w none) _))).mono ?_; rintro e w2 ⟨rfl, m2, rfl⟩; rw [hd]))
      go_ret2
      exact ⟨rfl, _, (unhide HU _).1, (unhide HU _).2⟩
  · have e2 : rV (q.drop rd) wa lo sc 1 1 = btv wa 0 := by simp [rV, e1, btv]
    have e3 : rRd q rd 1 1 = rd := by simp [rRd]
    have e4 : rLo lo 1 1 = lo := by simp [rLo]
    rw [e2, e3, e4]
    clear e1 e2 e3 e4
    go_enter Try.func13, Try.ntmps13
    go_wp2_with (first | (go_at_call 24; refine (some_any h 0).mono ?_; rintro e w2 ⟨rfl, m1, rfl⟩) | (go_at_call 19; refine (upR_any (h.quiet (grown_drewN (grown_self w none) _))).mono ?_; rintro e w2 ⟨rfl, m2, rfl⟩))
    go_ret2
    exact ⟨rfl, _, (unhide HU _).1, (unhide HU _).2⟩
  · have e3 : rRd q rd 2 1 = rd := by simp [rRd]
    have e4 : rLo lo 2 1 = lo := by simp [rLo]
    rw [e3, e4]
    have hdr : decide (0 < (q.drop rd).length) = decide (rd < q.length) := by simp [Nat.sub_pos_iff_lt]
    cases hu : (wa && decide (rd < q.length))
    · have e2 : rV (q.drop rd) wa lo sc 2 1 = 1 := by unfold rV; rw [if_pos e1, hdr, hu]; rfl
      rw [e2]
      clear e1 e2 e3 e4 hdr
      go_enter Try.func13, Try.ntmps13
      go_wp2_with (first | (go_at_call 24; refine (some_any h 0).mono ?_; rintro e w2 ⟨rfl, m1, rfl⟩) | (go_at_call 19; refine (upR_any (h.quiet (grown_drewN (grown_self w none) _))).mono ?_; rintro e w2 ⟨rfl, m2, rfl⟩; rw [hu]))
      go_ret2
      exact ⟨rfl, _, (unhide HU _).1, (unhide HU _).2⟩
    · have e2 : rV (q.drop rd) wa lo sc 2 1 = 4 := by unfold rV; rw [if_pos e1, hdr, hu]; rfl
      rw [e2]
      clear e1 e2 e3 e4 hdr
      go_enter Try.func13, Try.ntmps13
      go_wp2_with (first | (go_at_call 24; refine (some_any h 0).mono ?_; rintro e w2 ⟨rfl, m1, rfl⟩) | (go_at_call 19; refine (upR_any (h.quiet (grown_drewN (grown_self w none) _))).mono ?_; rintro e w2 ⟨rfl, m2, rfl⟩; rw [hu]))
      go_ret2
      exact ⟨rfl, _, (unhide HU _).1, (unhide HU _).2⟩
  · have e2 : rV (q.drop rd) wa lo sc 3 1 = 0 := by simp [rV]
    have e3 : rRd q rd 3 1 = rd := by simp [rRd]
    have e4 : rLo lo 3 1 = lo := by simp [rLo]
    rw [e2, e3, e4]
    clear e1 e2 e3 e4
    go_enter Try.func13, Try.ntmps13
    go_wp2_with (first | (go_at_call 24; refine (some_any h 0).mono ?_; rintro e w2 ⟨rfl, m1, rfl⟩) | (go_at_call 19; refine (upR_any (h.quiet (grown_drewN (grown_self w none) _))).mono ?_; rintro e w2 ⟨rfl, m2, rfl⟩))
    go_ret2
    exact ⟨rfl, _, (unhide HU _).1, (unhide HU _).2⟩
  · have e2 : rV (q.drop rd) wa lo sc 4 1 = 0 := by simp [rV]
    have e3 : rRd q rd 4 1 = rd := by simp [rRd]
    have e4 : rLo lo 4 1 = lo := by simp [rLo]
    rw [e2, e3, e4]
    clear e1 e2 e3 e4
    go_enter Try.func13, Try.ntmps13
    go_wp2_with (first | (go_at_call 24; refine (some_any h 0).mono ?_; rintro e w2 ⟨rfl, m1, rfl⟩) | (go_at_call 19; refine (upR_any (h.quiet (grown_drewN (grown_self w none) _))).mono ?_; rintro e w2 ⟨rfl, m2, rfl⟩))
    go_ret2
    exact ⟨rfl, _, (unhide HU _).1, (unhide HU _).2⟩
  · have e3 : rRd q rd 5 1 = rd := by simp [rRd]
    have e4 : rLo lo 5 1 = false := by simp [rLo, e1]
    rw [e3, e4]
    have HU2 : Hid (∀ n, RU ((w.drewN n).setCell ⟨b, 4, none⟩ (.int .u64 0)) b qv sv q s rd wa false sc ∧ Turn w ((w.drewN n).setCell ⟨b, 4, none⟩ (.int .u64 0)) (UC b qv sv) (UC b qv sv)) := fun n => by
      have h1 := (h.quiet (grown_drewN (grown_self w none) n)).setF (off := 4) (x := .int .u64 0) (rd' := rd) (wa' := wa) (lo' := false) (sc' := sc) rfl h.hr h.c0 h.c1
      exact ⟨h1.1, (Turn.quiet (grown_drewN (grown_self w none) n) h.lt).trans h1.2⟩
    have hdr : decide (0 < (q.drop rd).length) = decide (rd < q.length) := by simp [Nat.sub_pos_iff_lt]
    have e5 : rV (q.drop rd) wa lo sc 5 1 = 96 + (if decide (rd < q.length) then 1 else 0) + (if lo then 2 else 0) := by rw [← hdr]; simp [rV, e1]
    rw [e5]
    clear e1 e3 e4 e5 hdr
    have b0 : btv false 0 = 0 := rfl
    have b1 : btv true 0 = 1 := rfl
    cases hd : decide (rd < q.length) <;> cases lo
    all_goals
      first | rw [b0] at hc | rw [b1] at hc
      clear b0 b1
      go_enter Try.func13, Try.ntmps13
      go_wp2_with (first | (go_at_call 24; refine (some_any h 0).mono ?_; rintro e w2 ⟨rfl, m1, rfl⟩; rw [hd]) | (go_at_call 19; refine (upR_any (h.quiet (grown_drewN (grown_self w none) _))).mono ?_; rintro e w2 ⟨rfl, m2, rfl⟩; rw [hd]))
      go_ret2
      exact ⟨rfl, _, (unhide HU2 _).1, (unhide HU2 _).2⟩
  · have e2 : rV (q.drop rd) wa lo sc 6 1 = 0 := by simp [rV]
    have e3 : rRd q rd 6 1 = rd := by simp [rRd]
    have e4 : rLo lo 6 1 = lo := by simp [rLo]
    rw [e2, e3, e4]
    clear e1 e2 e3 e4
    go_enter Try.func13, Try.ntmps13
    go_wp2_with (first | (go_at_call 24; refine (some_any h 0).mono ?_; rintro e w2 ⟨rfl, m1, rfl⟩) | (go_at_call 19; refine (upR_any (h.quiet (grown_drewN (grown_self w none) _))).mono ?_; rintro e w2 ⟨rfl, m2, rfl⟩))
    go_ret2
    exact ⟨rfl, _, (unhide HU _).1, (unhide HU _).2⟩
  · have e2 : rV (q.drop rd) wa lo sc 7 1 = sc := by simp [rV, e1]
    have e3 : rRd q rd 7 1 = rd := by simp [rRd]
    have e4 : rLo lo 7 1 = lo := by simp [rLo]
    rw [e2, e3, e4]
    clear e1 e2 e3 e4
    go_enter Try.func13, Try.ntmps13
    go_wp2_with (first | (go_at_call 24; refine (some_any h 0).mono ?_; rintro e w2 ⟨rfl, m1, rfl⟩) | (go_at_call 19; refine (upR_any (h.quiet (grown_drewN (grown_self w none) _))).mono ?_; rintro e w2 ⟨rfl, m2, rfl⟩))
    go_ret2
    exact ⟨rfl, _, (unhide HU _).1, (unhide HU _).2⟩
end
end Go.Proofs.Ytaholijnfekkgaa
