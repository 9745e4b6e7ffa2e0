/- The serial port: what its functions do. -/
import Derived.Test.YtaholijnfekkgaaComp
import Derived.Test.YtaholijnfekkgaaRows
import Derived.Test.YtaholijnfekkgaaBits
import Derived.Laws.BitsAllLaws
namespace Go.Proofs.Ytaholijnfekkgaa
open Go.RowKit

def bv (x : Int) : Value := .int .u8 x
theorem bv_one (l : List Int) : ∀ y ∈ l.map bv, y.oneCell' = true := by
  intro y hy
  obtain ⟨x, _, rfl⟩ := List.mem_map.1 hy
  rfl
theorem info5 : (Try.prog.info? 5).map (fun i => (i.zero, i.size, i.bytes)) = some (some (.int .u8 0), 1, 1) := by kernel_rfl
theorem fol : Try.prog.follows .mixedOrders = true := by kernel_rfl

/-- A serial port at block b: its slices, and what they read as. -/
structure UU (w : World) (b : Nat) (qv sv : Value) (q s : List Int) (wa lo : Bool) (sc : Int) : Prop where
  heap : w.heap[b]? = some (.cells #[qv, sv, .bool wa, .bool lo, .int .u8 sc] 43 (0, 0))
  qs : Sl w 1 qv q.length (q.map bv)
  ss : Sl w 1 sv s.length (s.map bv)
  nq : sblk qv ≠ some b
  ns : sblk sv ≠ some b
  sep1 : ∀ g, spare qv = some g → sblk sv ≠ some g
  sep2 : ∀ g, spare sv = some g → sblk qv ≠ some g
  qb : ∀ x ∈ q, 0 ≤ x ∧ x < 256
  sb : ∀ x ∈ s, 0 ≤ x ∧ x < 256
  c0 : 0 ≤ sc
  c1 : sc < 256
def UC (b : Nat) (qv sv : Value) : Comp := ⟨fun x => x = b ∨ spare qv = some x ∨ spare sv = some x, fun x => sblk qv = some x ∨ sblk sv = some x⟩

theorem grown_trans {w w1 w2 : World} {r : Option Nat} (h : w.grownBy w1 r) (k : w1.grownBy w2 r) : w.grownBy w2 r :=
  ⟨k.os.trans h.os, k.tape.trans h.tape, k.output.trans h.output, Nat.le_trans h.size k.size, fun i hi hn => (k.block i (Nat.lt_of_lt_of_le hi h.size) hn).trans (h.block i hi hn)⟩
section
variable {w w' : World} {b : Nat} {qv sv : Value} {q s : List Int} {wa lo : Bool} {sc : Int}
theorem cells5 {a0 a1 a2 a3 a4 : Value} {T : TypeId} (h : w.heap[b]? = some (.cells #[a0, a1, a2, a3, a4] T (0, 0))) :
    w.cell? ⟨b, 0, none⟩ = some a0 ∧ w.cell? ⟨b, 1, none⟩ = some a1 ∧ w.cell? ⟨b, 2, none⟩ = some a2 ∧ w.cell? ⟨b, 3, none⟩ = some a3 ∧ w.cell? ⟨b, 4, none⟩ = some a4 ∧
    w.frozen? ⟨b, 0, none⟩ = false ∧ w.frozen? ⟨b, 1, none⟩ = false ∧ w.frozen? ⟨b, 2, none⟩ = false ∧ w.frozen? ⟨b, 3, none⟩ = false ∧ w.frozen? ⟨b, 4, none⟩ = false := by
  simp [World.cell?, World.frozen?, h]
theorem UU.lt (h : UU w b qv sv q s wa lo sc) : ∀ x, (UC b qv sv).all x → x < w.heap.size := by
  rintro x ((rfl | hx | hx) | hx | hx)
  · exact lt_of_heap h.heap
  · exact spare_lt h.qs hx
  · exact spare_lt h.ss hx
  · exact h.qs.blk_lt hx
  · exact h.ss.blk_lt hx
theorem UU.keep (h : UU w b qv sv q s wa lo sc) (hb : ∀ k, (UC b qv sv).all k → w'.heap[k]? = w.heap[k]?) : UU w' b qv sv q s wa lo sc :=
  ⟨(hb b (.inl (.inl rfl))).trans h.heap, h.qs.of_block (fun g hg => hb g (.inr (.inl hg))), h.ss.of_block (fun g hg => hb g (.inr (.inr hg))), h.nq, h.ns, h.sep1, h.sep2, h.qb, h.sb, h.c0, h.c1⟩
theorem UU.quiet (h : UU w b qv sv q s wa lo sc) (hg : w.grownBy w' none) : UU w' b qv sv q s wa lo sc :=
  h.keep fun k hk => hg.block k (h.lt k hk) (by simp)

theorem new_any (w : World) : Calls Try.prog 8 #[] w fun e w' => ∃ b, e = .returned (.pointer (some ⟨b, 0, none⟩)) ∧ UU w' b (.slice none 0 0) (.slice none 0 0) [] [] false false 0 ∧ Turn w w' Comp.none (UC b (.slice none 0 0) (.slice none 0 0)) := by
  go_enter Try.func8, Try.ntmps8
  go_wp2
  go_ret
  refine ⟨w.heap.size, rfl, ⟨heap_new _ _, Sl.nil _ _, Sl.nil _ _, by simp [sblk], by simp [sblk], by simp [spare], by simp [spare], by simp, by simp, by omega, by omega⟩, ?_⟩
  refine .of_grown (grown_alloc (grown_self w none) _) (by simp) ?_ ?_ ?_
  · rintro x (rfl | h | h)
    · exact .inr (Nat.le_refl _)
    · cases h
    · cases h
  · rintro x ((rfl | h | h) | h | h)
    · exact .inr (Nat.le_refl _)
    all_goals cases h
  · rintro x ((rfl | h | h) | h | h)
    · simp
    all_goals cases h

/-- The one slice of the port is another one: in a new block, or in its own. -/
theorem UU.setQ {w2 : World} {qv' : Value} {q' : List Int} (h : UU w b qv sv q s wa lo sc) (hg : w.grownBy w2 (spare qv)) (hq : Sl w2 1 qv' q'.length (q'.map bv))
    (hblk : sblk qv' = sblk qv ∨ ∃ g, sblk qv' = some g ∧ w.heap.size ≤ g) (hsp : spare qv' = none ∨ spare qv' = spare qv ∨ ∃ g, spare qv' = some g ∧ w.heap.size ≤ g)
    (hb : ∀ x ∈ q', 0 ≤ x ∧ x < 256) :
    UU (w2.setCell ⟨b, 0, none⟩ qv') b qv' sv q' s wa lo sc ∧ Turn w (w2.setCell ⟨b, 0, none⟩ qv') (UC b qv sv) (UC b qv' sv) := by
  have hlb := lt_of_heap h.heap
  have hnb : sblk qv' ≠ some b := by
    rcases hblk with e | ⟨g, e, hge⟩
    · rw [e]; exact h.nq
    · rw [e]; intro he; injection he with he; omega
  have hss : Sl w2 1 sv s.length (s.map bv) := h.ss.kept hg (fun g hsg e => h.sep1 g e hsg)
  have hsv2 : ∀ g, sblk sv = some g → g < w.heap.size := fun g hg => h.ss.blk_lt hg
  have hU : UU (w2.setCell ⟨b, 0, none⟩ qv') b qv' sv q' s wa lo sc := by
    refine ⟨heap_set (grown_other h.heap hg (fun e => h.nq (spare_blk e))) _ _, hq.set hnb, hss.set h.ns, hnb, h.ns, ?_, ?_, hb, h.sb, h.c0, h.c1⟩
    · intro g hgs
      rcases hsp with e | e | ⟨g', e, hge⟩
      · rw [e] at hgs; cases hgs
      · rw [e] at hgs; exact h.sep1 g hgs
      · rw [e] at hgs; injection hgs with hgs; intro hsg; have := hsv2 g hsg; omega
    · intro g hgs
      rcases hblk with e | ⟨g', e, hge⟩
      · rw [e]; exact h.sep2 g hgs
      · rw [e]; intro he; injection he with he; have := hsv2 g (spare_blk hgs); omega
  refine ⟨hU, ⟨hg.os, hg.tape, hg.output, by simpa [World.setCell] using hg.size, fun k hk hn => ?_, ?_, ?_, hU.lt⟩⟩
  · have hkb : k ≠ b := fun e => hn (.inl e)
    exact (Below.heap_setCell w2 ⟨b, 0, none⟩ qv' k hkb).trans (hg.block k hk (fun e => hn (.inr (.inl e.symm))))
  · rintro x (rfl | hx | hx)
    · exact .inl (.inl rfl)
    · rcases hsp with e | e | ⟨g', e, hge⟩
      · rw [e] at hx; cases hx
      · rw [e] at hx; exact .inl (.inr (.inl hx))
      · rw [e] at hx; injection hx with hx; exact .inr (by omega)
    · exact .inl (.inr (.inr hx))
  · rintro x ((rfl | hx | hx) | hx | hx)
    · exact .inl (.inl (.inl rfl))
    · rcases hsp with e | e | ⟨g', e, hge⟩
      · rw [e] at hx; cases hx
      · rw [e] at hx; exact .inl (.inl (.inr (.inl hx)))
      · rw [e] at hx; injection hx with hx; exact .inr (by omega)
    · exact .inl (.inl (.inr (.inr hx)))
    · rcases hblk with e | ⟨g, e, hge⟩
      · rw [e] at hx; exact .inl (.inr (.inl hx))
      · rw [e] at hx; injection hx with hx; exact .inr (by omega)
    · exact .inl (.inr (.inr hx))
theorem UU.setS {w2 : World} {sv' : Value} {s' : List Int} (h : UU w b qv sv q s wa lo sc) (hg : w.grownBy w2 (spare sv)) (hq : Sl w2 1 sv' s'.length (s'.map bv))
    (hblk : sblk sv' = sblk sv ∨ ∃ g, sblk sv' = some g ∧ w.heap.size ≤ g) (hsp : spare sv' = none ∨ spare sv' = spare sv ∨ ∃ g, spare sv' = some g ∧ w.heap.size ≤ g)
    (hb : ∀ x ∈ s', 0 ≤ x ∧ x < 256) :
    UU (w2.setCell ⟨b, 1, none⟩ sv') b qv sv' q s' wa lo sc ∧ Turn w (w2.setCell ⟨b, 1, none⟩ sv') (UC b qv sv) (UC b qv sv') := by
  have hlb := lt_of_heap h.heap
  have hnb : sblk sv' ≠ some b := by
    rcases hblk with e | ⟨g, e, hge⟩
    · rw [e]; exact h.ns
    · rw [e]; intro he; injection he with he; omega
  have hqs : Sl w2 1 qv q.length (q.map bv) := h.qs.kept hg (fun g hsg e => h.sep2 g e hsg)
  have hqv2 : ∀ g, sblk qv = some g → g < w.heap.size := fun g hg => h.qs.blk_lt hg
  have hU : UU (w2.setCell ⟨b, 1, none⟩ sv') b qv sv' q s' wa lo sc := by
    refine ⟨heap_set (grown_other h.heap hg (fun e => h.ns (spare_blk e))) _ _, hqs.set h.nq, hq.set hnb, h.nq, hnb, ?_, ?_, h.qb, hb, h.c0, h.c1⟩
    · intro g hgs
      rcases hblk with e | ⟨g', e, hge⟩
      · rw [e]; exact h.sep1 g hgs
      · rw [e]; intro he; injection he with he; have := hqv2 g (spare_blk hgs); omega
    · intro g hgs
      rcases hsp with e | e | ⟨g', e, hge⟩
      · rw [e] at hgs; cases hgs
      · rw [e] at hgs; exact h.sep2 g hgs
      · rw [e] at hgs; injection hgs with hgs; intro hsg; have := hqv2 g hsg; omega
  refine ⟨hU, ⟨hg.os, hg.tape, hg.output, by simpa [World.setCell] using hg.size, fun k hk hn => ?_, ?_, ?_, hU.lt⟩⟩
  · have hkb : k ≠ b := fun e => hn (.inl e)
    exact (Below.heap_setCell w2 ⟨b, 1, none⟩ sv' k hkb).trans (hg.block k hk (fun e => hn (.inr (.inr e.symm))))
  · rintro x (rfl | hx | hx)
    · exact .inl (.inl rfl)
    · exact .inl (.inr (.inl hx))
    · rcases hsp with e | e | ⟨g', e, hge⟩
      · rw [e] at hx; cases hx
      · rw [e] at hx; exact .inl (.inr (.inr hx))
      · rw [e] at hx; injection hx with hx; exact .inr (by omega)
  · rintro x ((rfl | hx | hx) | hx | hx)
    · exact .inl (.inl (.inl rfl))
    · exact .inl (.inl (.inr (.inl hx)))
    · rcases hsp with e | e | ⟨g', e, hge⟩
      · rw [e] at hx; cases hx
      · rw [e] at hx; exact .inl (.inl (.inr (.inr hx)))
      · rw [e] at hx; injection hx with hx; exact .inr (by omega)
    · exact .inl (.inr (.inl hx))
    · rcases hblk with e | ⟨g, e, hge⟩
      · rw [e] at hx; exact .inl (.inr (.inr hx))
      · rw [e] at hx; injection hx with hx; exact .inr (by omega)
/-- A plain field is written. -/
theorem UU.setF {wa' lo' : Bool} {sc' : Int} {off : Nat} {x : Value} (h : UU w b qv sv q s wa lo sc) (he : (#[qv, sv, .bool wa, .bool lo, .int .u8 sc] : Array Value).setIfInBounds off x = #[qv, sv, .bool wa', .bool lo', .int .u8 sc'])
    (c0 : 0 ≤ sc') (c1 : sc' < 256) :
    UU (w.setCell ⟨b, off, none⟩ x) b qv sv q s wa' lo' sc' ∧ Turn w (w.setCell ⟨b, off, none⟩ x) (UC b qv sv) (UC b qv sv) := by
  have hU : UU (w.setCell ⟨b, off, none⟩ x) b qv sv q s wa' lo' sc' :=
    ⟨(heap_set h.heap off x).trans (by rw [he]), h.qs.set h.nq, h.ss.set h.ns, h.nq, h.ns, h.sep1, h.sep2, h.qb, h.sb, c0, c1⟩
  exact ⟨hU, .of_grown (row := some b) (grown_set (grown_self w none) off x) (fun k hk => by injection hk with hk; exact .inl hk.symm) (fun _ h => .inl h) (fun _ h => .inl h) hU.lt⟩
theorem Turn.rfl' (h : UU w b qv sv q s wa lo sc) : Turn w w (UC b qv sv) (UC b qv sv) := .quiet (grown_self w none) h.lt

theorem up_any (h : UU w b qv sv q s wa lo sc) : Calls Try.prog 18 #[.pointer (some ⟨b, 0, none⟩)] w fun e w' => e = .returned (.bool (wa && decide (0 < q.length))) ∧ w' = w := by
  obtain ⟨A, cap, rfl, _⟩ := h.qs.parts
  have hc := cells5 h.heap
  cases wa
  · go_enter Try.func18, Try.ntmps18
    go_wp2
    go_ret
    exact ⟨rfl, rfl⟩
  · by_cases hq : 0 < q.length
    · have hq2 : (true && decide (0 < q.length)) = true := by simp [hq]
      rw [hq2]
      clear hq2
      go_enter Try.func18, Try.ntmps18
      go_wp2
      go_ret
      exact ⟨by simp [hq], rfl⟩
    · have hq2 : (true && decide (0 < q.length)) = false := by simp [hq]
      rw [hq2]
      clear hq2
      go_enter Try.func18, Try.ntmps18
      go_wp2
      go_ret
      exact ⟨by simp, rfl⟩

theorem sent_any (h : UU w b qv sv q s wa lo sc) (hs : s.length ≤ 140737488355328) : Calls Try.prog 20 #[.pointer (some ⟨b, 0, none⟩)] w fun e w' =>
    ∃ v', e = .returned v' ∧ Sl w' 1 v' s.length (s.map bv) ∧ w.grownBy w' none ∧ (sblk v' = none ∨ sblk v' = some w.heap.size) := by
  obtain ⟨i0, hi, hz0, hz1, hz2⟩ := info_parts info5
  have hc := cells5 h.heap
  go_enter Try.func20, Try.ntmps20
  go_wp2_with (at_builtin; refine wpList_append_sl rfl _ _ 35 rfl 5 i0 _ 1 1 Try.underlying35 hi hz0 hz1 hz2 rfl rfl rfl (Sl.nil w 1) h.ss (bv_one s) (by omega) (by omega) ?_; intro v' w' hsl hgr hblk hsp)
  go_ret
  refine ⟨v', rfl, by simpa using hsl, hgr, hblk⟩

theorem give_any (h : UU w b qv sv q s wa lo sc) (x : Int) (hx0 : 0 ≤ x) (hx1 : x < 256) : Calls Try.prog 16 #[.pointer (some ⟨b, 0, none⟩), .int .u8 x] w fun e w' =>
    e = .returned (.tuple #[]) ∧ ∃ qv', UU w' b qv' sv (if 16 ≤ q.length then q else q ++ [x]) s wa (if 16 ≤ q.length then true else lo) sc ∧ Turn w w' (UC b qv sv) (UC b qv' sv) := by
  obtain ⟨i0, hi, hz0, hz1, hz2⟩ := info_parts info5
  obtain ⟨A, cap, rfl, hcap⟩ := h.qs.parts
  have hc := cells5 h.heap
  by_cases hq : 16 ≤ q.length
  · rw [if_pos hq, if_pos hq]
    have HU := hide (h.setF (off := 3) (x := .bool true) (wa' := wa) (lo' := true) (sc' := sc) rfl h.c0 h.c1)
    go_enter Try.func16, Try.ntmps16
    go_wp2
    ((try simp only [Exit.inBlock, Exit.then]); refine bodyPost_ret (results_none rfl _ _ _) rfl ?_)
    exact ⟨rfl, _, (unhide HU).1, (unhide HU).2⟩
  · rw [if_neg hq, if_neg hq]
    have hql : q.length < 16 := by omega
    have hone := bv_one [x]
    go_enter Try.func16, Try.ntmps16
    go_wp2_with (at_builtin; refine wpList_append_sl rfl _ _ 35 rfl 5 i0 _ 1 1 Try.underlying35 hi hz0 hz1 hz2 rfl rfl rfl (h.qs.alloc _) (Sl.one w 5 (.int .u8 x)) hone (by omega) (by omega) ?_; intro v' w' hsl hgr hblk hsp; obtain ⟨A', cap', rfl, _⟩ := hsl.parts; have hc' := cells5 (b := b) (grown_other ((Below.heap_alloc w _ b (lt_of_heap h.heap)).trans h.heap) hgr (fun e => h.nq (spare_blk e))))
    go_end0
    obtain ⟨hU, hT⟩ := h.setQ (q' := q ++ [x]) (grown_trans (grown_alloc (grown_self w _) _) hgr) (by simpa [bv] using hsl) (Or.imp id (fun e => ⟨_, e, by simp⟩) hblk) (Or.imp id (Or.imp id (fun e => ⟨_, e, by simp⟩)) hsp)
      (fun y hy => by rcases List.mem_append.1 hy with h1 | h1; exact h.qb y h1; simp at h1; subst h1; exact ⟨hx0, hx1⟩)
    exact ⟨rfl, _, hU, hT⟩

def btv (is : Bool) (n : Int) : Int := if is then n + 1 else 0
theorem bit_any (w : World) (is : Bool) (n : Int) (hn : n = 0 ∨ n = 1) : Calls Try.prog 23 #[.bool is, .int .i64 n] w fun e w' => e = .returned (.int .u64 (btv is n)) ∧ w' = w := by
  rcases hn with rfl | rfl <;> cases is <;> (
    go_enter Try.func23, Try.ntmps23
    go_wp2
    go_ret
    exact ⟨rfl, rfl⟩)

def rOk (at_ size : Int) : Bool := decide (size = 1) && decide (at_ ≤ 7)
/-- What a write leaves. -/
def wS (s : List Int) (at_ size v : Int) : List Int := if rOk at_ size = true ∧ at_ = 0 then s ++ [v % 256] else s
def wWa (wa : Bool) (at_ size v : Int) : Bool := if rOk at_ size = true ∧ at_ = 1 then decide (v % 2 = 1) else wa
def wSc (sc : Int) (at_ size v : Int) : Int := if rOk at_ size = true ∧ at_ = 7 then v % 256 else sc

theorem write_any (h : UU w b qv sv q s wa lo sc) (hs : s.length < 140737488355328) (at_ size v : Int) (a0 : 0 ≤ at_) (v0 : 0 ≤ v) (v1 : v < 18446744073709551616) :
    Calls Try.prog 10 #[.pointer (some ⟨b, 0, none⟩), .int .u64 at_, .int .i64 size, .int .u64 v] w fun e w' =>
    e = .returned (.bool (rOk at_ size)) ∧ ∃ sv', UU w' b qv sv' q (wS s at_ size v) (wWa wa at_ size v) lo (wSc sc at_ size v) ∧ Turn w w' (UC b qv sv) (UC b qv sv') := by
  obtain ⟨i0, hi, hz0, hz1, hz2⟩ := info_parts info5
  obtain ⟨A, cap, rfl, hcap⟩ := h.ss.parts
  have hc := cells5 h.heap
  have HT := Turn.rfl' h
  by_cases hsz : size = 1
  case neg =>
    have e1 : rOk at_ size = false := by simp [rOk, hsz]
    have e2 : wS s at_ size v = s := by simp [wS, e1]
    have e3 : wWa wa at_ size v = wa := by simp [wWa, e1]
    have e4 : wSc sc at_ size v = sc := by simp [wSc, e1]
    rw [e1, e2, e3, e4]
    clear e1 e2 e3 e4
    go_enter Try.func10, Try.ntmps10
    go_wp2
    go_ret
    exact ⟨rfl, _, h, HT⟩
  subst hsz
  by_cases hat : 7 < at_
  · have hn : ¬ at_ ≤ 7 := by omega
    have e1 : rOk at_ 1 = false := by simp [rOk, hn]
    have e2 : wS s at_ 1 v = s := by simp [wS, e1]
    have e3 : wWa wa at_ 1 v = wa := by simp [wWa, e1]
    have e4 : wSc sc at_ 1 v = sc := by simp [wSc, e1]
    rw [e1, e2, e3, e4]
    clear e1 e2 e3 e4 hn
    go_enter Try.func10, Try.ntmps10
    go_wp2
    go_ret
    exact ⟨rfl, _, h, HT⟩
  have e1 : rOk at_ 1 = true := by simp [rOk]; omega
  rw [e1]
  have hcases : at_ = 0 ∨ at_ = 1 ∨ at_ = 7 ∨ ((at_ == 0) = false ∧ (at_ == 1) = false ∧ (at_ == 7) = false) := by
    simp only [beq_eq_false_iff_ne]; omega
  rcases hcases with rfl | rfl | rfl | ⟨n0, n1, n7⟩
  · have e2 : wS s 0 1 v = s ++ [v % 256] := by simp [wS, e1]
    have e3 : wWa wa 0 1 v = wa := by simp [wWa]
    have e4 : wSc sc 0 1 v = sc := by simp [wSc]
    rw [e2, e3, e4]
    have hone := bv_one [v % 256]
    have hv : v.toNat % 256 = (v % 256).toNat := by omega
    clear e1 e2 e3 e4
    go_enter Try.func10, Try.ntmps10
    go_wp2_with (at_builtin; refine wpList_append_sl rfl _ _ 35 rfl 5 i0 _ 1 1 Try.underlying35 hi hz0 hz1 hz2 rfl rfl rfl (h.ss.alloc _) (Sl.one w 5 (.int .u8 (v % 256))) hone (by omega) (by omega) ?_; intro v' w' hsl hgr hblk hsp; obtain ⟨A', cap', rfl, _⟩ := hsl.parts; have hc' := cells5 (b := b) (grown_other ((Below.heap_alloc w _ b (lt_of_heap h.heap)).trans h.heap) hgr (fun e => h.ns (spare_blk e))))
    go_ret
    obtain ⟨hU, hT⟩ := h.setS (s' := s ++ [v % 256]) (grown_trans (grown_alloc (grown_self w _) _) hgr) (by simpa [bv] using hsl) (Or.imp id (fun e => ⟨_, e, by simp⟩) hblk) (Or.imp id (Or.imp id (fun e => ⟨_, e, by simp⟩)) hsp)
      (fun y hy => by rcases List.mem_append.1 hy with h1 | h1; exact h.sb y h1; simp at h1; subst h1; omega)
    exact ⟨rfl, _, hU, hT⟩
  · have e2 : wS s 1 1 v = s := by simp [wS]
    have e3 : wWa wa 1 1 v = decide (v % 2 = 1) := by simp [wWa, e1]
    have e4 : wSc sc 1 1 v = sc := by simp [wSc]
    rw [e2, e3, e4]
    have hm := u64_mask1 v v0 v1
    have HU := hide (h.setF (off := 2) (x := .bool (decide (v % 2 = 1))) (wa' := decide (v % 2 = 1)) (lo' := lo) (sc' := sc) rfl h.c0 h.c1)
    clear e1 e2 e3 e4
    go_enter Try.func10, Try.ntmps10
    go_wp2
    go_ret
    exact ⟨rfl, _, (unhide HU).1, (unhide HU).2⟩
  · have e2 : wS s 7 1 v = s := by simp [wS]
    have e3 : wWa wa 7 1 v = wa := by simp [wWa]
    have e4 : wSc sc 7 1 v = v % 256 := by simp [wSc, e1]
    rw [e2, e3, e4]
    have HU := hide (h.setF (off := 4) (x := .int .u8 (v % 256)) (wa' := wa) (lo' := lo) (sc' := v % 256) rfl (by omega) (by omega))
    clear e1 e2 e3 e4
    go_enter Try.func10, Try.ntmps10
    go_wp2
    go_ret
    exact ⟨rfl, _, (unhide HU).1, (unhide HU).2⟩
  · simp only [beq_eq_false_iff_ne] at n0 n1 n7
    have e2 : wS s at_ 1 v = s := by simp [wS, n0]
    have e3 : wWa wa at_ 1 v = wa := by simp [wWa, n1]
    have e4 : wSc sc at_ 1 v = sc := by simp [wSc, n7]
    rw [e2, e3, e4]
    clear e1 e2 e3 e4
    rw [← beq_eq_false_iff_ne] at n0 n1 n7
    go_enter Try.func10, Try.ntmps10
    go_wp2
    go_ret
    exact ⟨rfl, _, h, HT⟩
end
end Go.Proofs.Ytaholijnfekkgaa
