/- The reference's port. -/
import Derived.Test.YtaholijnfekkgaaU2
namespace Go.Proofs.Ytaholijnfekkgaa
open Go.RowKit

/-- The reference's port at block b: its slices, and what they read as. -/
structure RU (w : World) (b : Nat) (qv sv : Value) (q s : List Int) (rd : Nat) (wa lo : Bool) (sc : Int) : Prop where
  heap : w.heap[b]? = some (.cells #[qv, sv, .int .i64 (rd : Int), .int .u64 (btv wa 0), .int .u64 (btv lo 0), .int .u64 sc] 45 (0, 0))
  qs : Sl w 1 qv q.length (q.map bv)
  ss : Sl w 1 sv s.length (s.map bv)
  nq : sblk qv ≠ some b
  ns : sblk sv ≠ some b
  sep1 : ∀ g, spare qv = some g → sblk sv ≠ some g
  sep2 : ∀ g, spare sv = some g → sblk qv ≠ some g
  qb : ∀ x ∈ q, 0 ≤ x ∧ x < 256
  sb : ∀ x ∈ s, 0 ≤ x ∧ x < 256
  hr : rd ≤ q.length
  c0 : 0 ≤ sc
  c1 : sc < 256

section
variable {w w' : World} {b : Nat} {qv sv : Value} {q s : List Int} {rd : Nat} {wa lo : Bool} {sc : Int}
theorem cells6 {a0 a1 a2 a3 a4 a5 : Value} {T : TypeId} (h : w.heap[b]? = some (.cells #[a0, a1, a2, a3, a4, a5] T (0, 0))) :
    w.cell? ⟨b, 0, none⟩ = some a0 ∧ w.cell? ⟨b, 1, none⟩ = some a1 ∧ w.cell? ⟨b, 2, none⟩ = some a2 ∧ w.cell? ⟨b, 3, none⟩ = some a3 ∧ w.cell? ⟨b, 4, none⟩ = some a4 ∧ w.cell? ⟨b, 5, none⟩ = some a5 ∧
    w.frozen? ⟨b, 0, none⟩ = false ∧ w.frozen? ⟨b, 1, none⟩ = false ∧ w.frozen? ⟨b, 2, none⟩ = false ∧ w.frozen? ⟨b, 3, none⟩ = false ∧ w.frozen? ⟨b, 4, none⟩ = false ∧ w.frozen? ⟨b, 5, none⟩ = false := by
  simp [World.cell?, World.frozen?, h]
theorem RU.lt (h : RU w b qv sv q s rd wa lo sc) : ∀ x, (UC b qv sv).all x → x < w.heap.size := by
  rintro x ((rfl | hx | hx) | hx | hx)
  · exact lt_of_heap h.heap
  · exact spare_lt h.qs hx
  · exact spare_lt h.ss hx
  · exact h.qs.blk_lt hx
  · exact h.ss.blk_lt hx
theorem RU.keep (h : RU w b qv sv q s rd wa lo sc) (hb : ∀ k, (UC b qv sv).all k → w'.heap[k]? = w.heap[k]?) : RU w' b qv sv q s rd wa lo sc :=
  ⟨(hb b (.inl (.inl rfl))).trans h.heap, h.qs.of_block (fun g hg => hb g (.inr (.inl hg))), h.ss.of_block (fun g hg => hb g (.inr (.inr hg))), h.nq, h.ns, h.sep1, h.sep2, h.qb, h.sb, h.hr, h.c0, h.c1⟩
theorem RU.quiet (h : RU w b qv sv q s rd wa lo sc) (hg : w.grownBy w' none) : RU w' b qv sv q s rd wa lo sc :=
  h.keep fun k hk => hg.block k (h.lt k hk) (by simp)

/-- The one slice of the port is another one: in a new block, or in its own. -/
theorem RU.setQ {w2 : World} {qv' : Value} {q' : List Int} (h : RU w b qv sv q s rd wa lo sc) (hg : w.grownBy w2 (spare qv)) (hq : Sl w2 1 qv' q'.length (q'.map bv))
    (hblk : sblk qv' = sblk qv ∨ ∃ g, sblk qv' = some g ∧ w.heap.size ≤ g) (hsp : spare qv' = none ∨ spare qv' = spare qv ∨ ∃ g, spare qv' = some g ∧ w.heap.size ≤ g)
    (hr' : rd ≤ q'.length) (hb : ∀ x ∈ q', 0 ≤ x ∧ x < 256) :
    RU (w2.setCell ⟨b, 0, none⟩ qv') b qv' sv q' s rd wa lo sc ∧ Turn w (w2.setCell ⟨b, 0, none⟩ qv') (UC b qv sv) (UC b qv' sv) := by
  have hlb := lt_of_heap h.heap
  have hnb : sblk qv' ≠ some b := by
    rcases hblk with e | ⟨g, e, hge⟩
    · rw [e]; exact h.nq
    · rw [e]; intro he; injection he with he; omega
  have hss : Sl w2 1 sv s.length (s.map bv) := h.ss.kept hg (fun g hsg e => h.sep1 g e hsg)
  have hsv2 : ∀ g, sblk sv = some g → g < w.heap.size := fun g hg => h.ss.blk_lt hg
  have hU : RU (w2.setCell ⟨b, 0, none⟩ qv') b qv' sv q' s rd wa lo sc := by
    refine ⟨heap_set (grown_other h.heap hg (fun e => h.nq (spare_blk e))) _ _, hq.set hnb, hss.set h.ns, hnb, h.ns, ?_, ?_, hb, h.sb, hr', h.c0, h.c1⟩
    · intro g hgs
      rcases hsp with e | e | ⟨g', e, hge⟩
      · rw [e] at hgs; cases hgs
      · rw [e] at hgs; exact h.sep1 g hgs
      · rw [e] at hgs; injection hgs with hgs; intro hsg; have := hsv2 g hsg; omega
    · intro g hgs
      rcases hblk with e | ⟨g', e, hge⟩
      · rw [e]; exact h.sep2 g hgs
      · rw [e]; intro he; injection he with he; have := hsv2 g (spare_blk hgs); omega
  refine ⟨hU, ⟨hg.os, hg.tape, hg.output, by simpa [World.setCell] using hg.size, fun k hk hn => ?_, ?_, ?_, hU.lt⟩⟩
  · have hkb : k ≠ b := fun e => hn (.inl e)
    exact (Below.heap_setCell w2 ⟨b, 0, none⟩ qv' k hkb).trans (hg.block k hk (fun e => hn (.inr (.inl e.symm))))
  · rintro x (rfl | hx | hx)
    · exact .inl (.inl rfl)
    · rcases hsp with e | e | ⟨g', e, hge⟩
      · rw [e] at hx; cases hx
      · rw [e] at hx; exact .inl (.inr (.inl hx))
      · rw [e] at hx; injection hx with hx; exact .inr (by omega)
    · exact .inl (.inr (.inr hx))
  · rintro x ((rfl | hx | hx) | hx | hx)
    · exact .inl (.inl (.inl rfl))
    · rcases hsp with e | e | ⟨g', e, hge⟩
      · rw [e] at hx; cases hx
      · rw [e] at hx; exact .inl (.inl (.inr (.inl hx)))
      · rw [e] at hx; injection hx with hx; exact .inr (by omega)
    · exact .inl (.inl (.inr (.inr hx)))
    · rcases hblk with e | ⟨g, e, hge⟩
      · rw [e] at hx; exact .inl (.inr (.inl hx))
      · rw [e] at hx; injection hx with hx; exact .inr (by omega)
    · exact .inl (.inr (.inr hx))
theorem RU.setS {w2 : World} {sv' : Value} {s' : List Int} (h : RU w b qv sv q s rd wa lo sc) (hg : w.grownBy w2 (spare sv)) (hq : Sl w2 1 sv' s'.length (s'.map bv))
    (hblk : sblk sv' = sblk sv ∨ ∃ g, sblk sv' = some g ∧ w.heap.size ≤ g) (hsp : spare sv' = none ∨ spare sv' = spare sv ∨ ∃ g, spare sv' = some g ∧ w.heap.size ≤ g)
    (hb : ∀ x ∈ s', 0 ≤ x ∧ x < 256) :
    RU (w2.setCell ⟨b, 1, none⟩ sv') b qv sv' q s' rd wa lo sc ∧ Turn w (w2.setCell ⟨b, 1, none⟩ sv') (UC b qv sv) (UC b qv sv') := by
  have hlb := lt_of_heap h.heap
  have hnb : sblk sv' ≠ some b := by
    rcases hblk with e | ⟨g, e, hge⟩
    · rw [e]; exact h.ns
    · rw [e]; intro he; injection he with he; omega
  have hqs : Sl w2 1 qv q.length (q.map bv) := h.qs.kept hg (fun g hsg e => h.sep2 g e hsg)
  have hqv2 : ∀ g, sblk qv = some g → g < w.heap.size := fun g hg => h.qs.blk_lt hg
  have hU : RU (w2.setCell ⟨b, 1, none⟩ sv') b qv sv' q s' rd wa lo sc := by
    refine ⟨heap_set (grown_other h.heap hg (fun e => h.ns (spare_blk e))) _ _, hqs.set h.nq, hq.set hnb, h.nq, hnb, ?_, ?_, h.qb, hb, h.hr, h.c0, h.c1⟩
    · intro g hgs
      rcases hblk with e | ⟨g', e, hge⟩
      · rw [e]; exact h.sep1 g hgs
      · rw [e]; intro he; injection he with he; have := hqv2 g (spare_blk hgs); omega
    · intro g hgs
      rcases hsp with e | e | ⟨g', e, hge⟩
      · rw [e] at hgs; cases hgs
      · rw [e] at hgs; exact h.sep2 g hgs
      · rw [e] at hgs; injection hgs with hgs; intro hsg; have := hqv2 g hsg; omega
  refine ⟨hU, ⟨hg.os, hg.tape, hg.output, by simpa [World.setCell] using hg.size, fun k hk hn => ?_, ?_, ?_, hU.lt⟩⟩
  · have hkb : k ≠ b := fun e => hn (.inl e)
    exact (Below.heap_setCell w2 ⟨b, 1, none⟩ sv' k hkb).trans (hg.block k hk (fun e => hn (.inr (.inr e.symm))))
  · rintro x (rfl | hx | hx)
    · exact .inl (.inl rfl)
    · exact .inl (.inr (.inl hx))
    · rcases hsp with e | e | ⟨g', e, hge⟩
      · rw [e] at hx; cases hx
      · rw [e] at hx; exact .inl (.inr (.inr hx))
      · rw [e] at hx; injection hx with hx; exact .inr (by omega)
  · rintro x ((rfl | hx | hx) | hx | hx)
    · exact .inl (.inl (.inl rfl))
    · exact .inl (.inl (.inr (.inl hx)))
    · rcases hsp with e | e | ⟨g', e, hge⟩
      · rw [e] at hx; cases hx
      · rw [e] at hx; exact .inl (.inl (.inr (.inr hx)))
      · rw [e] at hx; injection hx with hx; exact .inr (by omega)
    · exact .inl (.inr (.inl hx))
    · rcases hblk with e | ⟨g, e, hge⟩
      · rw [e] at hx; exact .inl (.inr (.inr hx))
      · rw [e] at hx; injection hx with hx; exact .inr (by omega)
/-- A plain field is written. -/
theorem RU.setF {rd' : Nat} {wa' lo' : Bool} {sc' : Int} {off : Nat} {x : Value} (h : RU w b qv sv q s rd wa lo sc) (he : (#[qv, sv, .int .i64 (rd : Int), .int .u64 (btv wa 0), .int .u64 (btv lo 0), .int .u64 sc] : Array Value).setIfInBounds off x = #[qv, sv, .int .i64 (rd' : Int), .int .u64 (btv wa' 0), .int .u64 (btv lo' 0), .int .u64 sc'])
    (hr' : rd' ≤ q.length) (c0 : 0 ≤ sc') (c1 : sc' < 256) :
    RU (w.setCell ⟨b, off, none⟩ x) b qv sv q s rd' wa' lo' sc' ∧ Turn w (w.setCell ⟨b, off, none⟩ x) (UC b qv sv) (UC b qv sv) := by
  have hU : RU (w.setCell ⟨b, off, none⟩ x) b qv sv q s rd' wa' lo' sc' :=
    ⟨(heap_set h.heap off x).trans (by rw [he]), h.qs.set h.nq, h.ss.set h.ns, h.nq, h.ns, h.sep1, h.sep2, h.qb, h.sb, hr', c0, c1⟩
  exact ⟨hU, .of_grown (row := some b) (grown_set (grown_self w none) off x) (fun k hk => by injection hk with hk; exact .inl hk.symm) (fun _ h => .inl h) (fun _ h => .inl h) hU.lt⟩
theorem Turn.rflR (h : RU w b qv sv q s rd wa lo sc) : Turn w w (UC b qv sv) (UC b qv sv) := .quiet (grown_self w none) h.lt

theorem Sl.zero (w : World) (T : TypeId) : Sl (w.alloc (.cells #[] T)) 1 (.slice (some ⟨w.heap.size, 0, none⟩) 0 0) 0 [] :=
  ⟨rfl, .inr ⟨w.heap.size, 0, 0, #[], T, rfl, heap_new w _, Nat.le_refl _, by simp, by simp⟩⟩
theorem grown_none {row : Option Nat} (h : w.grownBy w' row) (e : row = none) : w.grownBy w' none := e ▸ h
theorem newR_any (w : World) : Calls Try.prog 9 #[] w fun e w' => ∃ b, e = .returned (.pointer (some ⟨b, 0, none⟩)) ∧ RU w' b (.slice none 0 0) (.slice none 0 0) [] [] 0 false false 0 ∧ Turn w w' Comp.none (UC b (.slice none 0 0) (.slice none 0 0)) := by
  go_enter Try.func9, Try.ntmps9
  go_wp2
  go_ret
  refine ⟨w.heap.size, rfl, ⟨heap_new _ _, Sl.nil _ _, Sl.nil _ _, by simp [sblk], by simp [sblk], by simp [spare], by simp [spare], by simp, by simp, by simp, by omega, by omega⟩, ?_⟩
  refine .of_grown (grown_alloc (grown_self w none) _) (by simp) ?_ ?_ ?_
  · rintro x (rfl | h | h)
    · exact .inr (Nat.le_refl _)
    · cases h
    · cases h
  · rintro x ((rfl | h | h) | h | h)
    · exact .inr (Nat.le_refl _)
    all_goals cases h
  · rintro x ((rfl | h | h) | h | h)
    · simp
    all_goals cases h

theorem some_any (h : RU w b qv sv q s rd wa lo sc) (n : Nat) : Calls Try.prog 24 #[.pointer (some ⟨b, 0, none⟩)] w fun e w' => e = .returned (.bool (decide (rd < q.length))) ∧ ∃ m, w' = w.drewN m := by
  obtain ⟨A, cap, rfl, _⟩ := h.qs.parts
  have hc := cells6 h.heap
  have hd : decide ((rd : Int) < (q.length : Int)) = decide (rd < q.length) := by simp
  go_enter Try.func24, Try.ntmps24
  go_wp2
  go_quiet (fail)
  go_wp2
  go_ret
  exact ⟨by simp, _, rfl⟩

theorem upR_any (h : RU w b qv sv q s rd wa lo sc) : Calls Try.prog 19 #[.pointer (some ⟨b, 0, none⟩)] w fun e w' => e = .returned (.bool (wa && decide (rd < q.length))) ∧ ∃ m, w' = w.drewN m := by
  obtain ⟨A, cap, rfl, _⟩ := h.qs.parts
  have hc := cells6 h.heap
  cases wa
  · have hw : btv false 0 = 0 := rfl
    rw [hw] at hc
    clear hw
    go_enter Try.func19, Try.ntmps19
    go_wp2
    go_quiet (fail)
    go_wp2
    go_ret
    exact ⟨rfl, _, rfl⟩
  · have hw : btv true 0 = 1 := rfl
    rw [hw] at hc
    clear hw
    go_enter Try.func19, Try.ntmps19
    go_wp2
    go_quiet (fail)
    go_wp2
    go_ret
    exact ⟨by simp, _, rfl⟩

theorem sentR_any (h : RU w b qv sv q s rd wa lo sc) (hs : s.length ≤ 140737488355328) : Calls Try.prog 21 #[.pointer (some ⟨b, 0, none⟩)] w fun e w' =>
    ∃ v', e = .returned v' ∧ Sl w' 1 v' s.length (s.map bv) ∧ w.grownBy w' none ∧ (∀ g, sblk v' = some g → w.heap.size ≤ g) := by
  obtain ⟨i0, hi, hz0, hz1, hz2⟩ := info_parts info5
  obtain ⟨A, cap, rfl, _⟩ := h.ss.parts
  have hc := cells6 h.heap
  have hlt := lt_of_heap h.heap
  go_enter Try.func21, Try.ntmps21
  go_wp2_with (at_builtin; refine wpList_append_sl rfl _ _ 35 rfl 5 i0 _ 1 1 Try.underlying35 hi hz0 hz1 hz2 rfl rfl rfl (Sl.zero w 5) (h.ss.alloc _) (bv_one s) (by omega) (by omega) ?_; intro v' w' hsl hgr hblk hsp)
  go_ret
  refine ⟨v', rfl, by simpa using hsl, grown_trans (grown_alloc (grown_self w _) _) (grown_none hgr rfl), fun g hg => ?_⟩
  rcases hblk with e | e
  · rw [hg] at e
    injection e with e
    rw [e]
    exact Nat.le_refl _
  · rw [hg] at e
    injection e with e
    rw [e]
    simp

theorem giveR_any (h : RU w b qv sv q s rd wa lo sc) (hl : q.length < 140737488355328) (x : Int) (hx0 : 0 ≤ x) (hx1 : x < 256) : Calls Try.prog 17 #[.pointer (some ⟨b, 0, none⟩), .int .u8 x] w fun e w' =>
    e = .returned (.tuple #[]) ∧ ∃ qv', RU w' b qv' sv (if 16 ≤ q.length - rd then q else q ++ [x]) s rd wa (if 16 ≤ q.length - rd then true else lo) sc ∧ Turn w w' (UC b qv sv) (UC b qv' sv) := by
  obtain ⟨i0, hi, hz0, hz1, hz2⟩ := info_parts info5
  obtain ⟨A, cap, rfl, hcap⟩ := h.qs.parts
  have hc := cells6 h.heap
  have hr := h.hr
  by_cases hq : 16 ≤ q.length - rd
  · rw [if_pos hq, if_pos hq]
    have HU : Hid (∀ n, RU ((w.drewN n).setCell ⟨b, 4, none⟩ (.int .u64 1)) b (.slice A q.length cap) sv q s rd wa true sc ∧ Turn w ((w.drewN n).setCell ⟨b, 4, none⟩ (.int .u64 1)) (UC b (.slice A q.length cap) sv) (UC b (.slice A q.length cap) sv)) := fun n => by
      have h1 := (h.quiet (grown_drewN (grown_self w none) n)).setF (off := 4) (x := .int .u64 1) (rd' := rd) (wa' := wa) (lo' := true) (sc' := sc) rfl h.hr h.c0 h.c1
      exact ⟨h1.1, (Turn.quiet (grown_drewN (grown_self w none) n) h.lt).trans h1.2⟩
    have ht : ¬ ((q.length : Int) - rd < 16) := by omega
    go_enter Try.func17, Try.ntmps17
    go_wp2
    go_quiet (fail)
    go_wp2
    go_end0
    exact ⟨rfl, _, (unhide HU _).1, (unhide HU _).2⟩
  · rw [if_neg hq, if_neg hq]
    have ht : (q.length : Int) - rd < 16 := by omega
    have hone := bv_one [x]
    go_enter Try.func17, Try.ntmps17
    go_wp2
    go_quiet (fail)
    go_wp2_with (at_builtin; refine wpList_append_sl rfl _ _ 35 rfl 5 i0 _ 1 1 Try.underlying35 hi hz0 hz1 hz2 rfl rfl rfl (Sl.alloc (h.qs.kept (grown_drewN (grown_self w none) _) (by simp)) _) (Sl.one (w.drewN nq) 5 (.int .u8 x)) hone (by omega) (by omega) ?_; intro v' w' hsl hgr hblk hsp; obtain ⟨A', cap', rfl, _⟩ := hsl.parts; have hc' := cells6 (b := b) (grown_other ((Below.heap_alloc (w.drewN nq) _ b (lt_of_heap h.heap)).trans h.heap) hgr (fun e => h.nq (spare_blk e))))
    go_end0
    obtain ⟨hU, hT⟩ := h.setQ (q' := q ++ [x]) (grown_trans (grown_alloc (grown_drewN (grown_self w _) nq) _) hgr) (by simpa [bv] using hsl) (Or.imp id (fun e => ⟨_, e, by simp⟩) hblk) (Or.imp id (Or.imp id (fun e => ⟨_, e, by simp⟩)) hsp)
      (by simp; omega) (fun y hy => by rcases List.mem_append.1 hy with h1 | h1; exact h.qb y h1; simp at h1; subst h1; exact ⟨hx0, hx1⟩)
    exact ⟨rfl, _, hU, hT⟩
end
end Go.Proofs.Ytaholijnfekkgaa
