/- The serial port: reading, copying. -/
import Derived.Test.YtaholijnfekkgaaU1
namespace Go.Proofs.Ytaholijnfekkgaa
open Go.RowKit

section
variable {w w' : World} {b : Nat} {qv sv : Value} {q s : List Int} {wa lo : Bool} {sc : Int}
def rV (q : List Int) (wa lo : Bool) (sc at_ size : Int) : Int :=
  if rOk at_ size = true then (if at_ = 0 then q.headD 0 else if at_ = 1 then (if wa then 1 else 0) else if at_ = 2 then (if wa && decide (0 < q.length) then 4 else 1)
    else if at_ = 5 then 96 + (if 0 < q.length then 1 else 0) + (if lo then 2 else 0) else if at_ = 7 then sc else 0) else 0
def rQ (q : List Int) (at_ size : Int) : List Int := if rOk at_ size = true ∧ at_ = 0 then q.tail else q
def rLo (lo : Bool) (at_ size : Int) : Bool := if rOk at_ size = true ∧ at_ = 5 then false else lo

theorem read_any (h : UU w b qv sv q s wa lo sc) (at_ size : Int) (a0 : 0 ≤ at_) :
    Calls Try.prog 12 #[.pointer (some ⟨b, 0, none⟩), .int .u64 at_, .int .i64 size] w fun e w' =>
    e = .returned (.tuple #[.int .u64 (rV q wa lo sc at_ size), .bool (rOk at_ size)]) ∧ ∃ qv', UU w' b qv' sv (rQ q at_ size) s wa (rLo lo at_ size) sc ∧ Turn w w' (UC b qv sv) (UC b qv' sv) := by
  have hc := cells5 h.heap
  have HT := Turn.rfl' h
  by_cases hsz : size = 1
  case neg =>
    have e1 : rOk at_ size = false := by simp [rOk, hsz]
    have e2 : rV q wa lo sc at_ size = 0 := by simp [rV, e1]
    have e3 : rQ q at_ size = q := by simp [rQ, e1]
    have e4 : rLo lo at_ size = lo := by simp [rLo, e1]
    rw [e1, e2, e3, e4]
    clear e1 e2 e3 e4
    go_enter Try.func12, Try.ntmps12
    go_wp2
    go_ret2
    exact ⟨rfl, _, h, HT⟩
  subst hsz
  by_cases hat : 7 < at_
  · have hn : ¬ at_ ≤ 7 := by omega
    have e1 : rOk at_ 1 = false := by simp [rOk, hn]
    have e2 : rV q wa lo sc at_ 1 = 0 := by simp [rV, e1]
    have e3 : rQ q at_ 1 = q := by simp [rQ, e1]
    have e4 : rLo lo at_ 1 = lo := by simp [rLo, e1]
    rw [e1, e2, e3, e4]
    clear e1 e2 e3 e4 hn
    go_enter Try.func12, Try.ntmps12
    go_wp2
    go_ret2
    exact ⟨rfl, _, h, HT⟩
  have e1 : rOk at_ 1 = true := by simp [rOk]; omega
  rw [e1]
  have hcases : at_ = 0 ∨ at_ = 1 ∨ at_ = 2 ∨ at_ = 5 ∨ at_ = 7 ∨ ((at_ == 0) = false ∧ (at_ == 1) = false ∧ (at_ == 2) = false ∧ (at_ == 5) = false ∧ (at_ == 7) = false) := by
    simp only [beq_eq_false_iff_ne]; omega
  rcases hcases with rfl | rfl | rfl | rfl | rfl | ⟨n0, n1, n2, n5, n7⟩
  · have e4 : rLo lo 0 1 = lo := by simp [rLo]
    rw [e4]
    rcases q with _ | ⟨x, t⟩
    · have e2 : rV [] wa lo sc 0 1 = 0 := by simp [rV]
      have e3 : rQ [] 0 1 = [] := by simp [rQ]
      rw [e2, e3]
      obtain ⟨A, cap, rfl, hcap⟩ := h.qs.parts
      clear e1 e2 e3 e4
      go_enter Try.func12, Try.ntmps12
      go_wp2
      go_ret2
      exact ⟨rfl, _, h, HT⟩
    · have e2 : rV (x :: t) wa lo sc 0 1 = x := by simp [rV, e1]
      have e3 : rQ (x :: t) 0 1 = t := by simp [rQ, e1]
      rw [e2, e3]
      obtain ⟨g, o, cap, rfl, hcap, hglt, hgb, hg, hgf⟩ := h.qs.cell (j := 0) (by simp)
      simp only [List.map_cons, List.getElem?_cons_zero, Nat.add_zero] at hg
      have hx := h.qb x (by simp)
      have hx2 : x % 18446744073709551616 = x := by omega
      have hsl := h.qs.tail (k := 1) (by simp)
      simp only [List.length_cons, Nat.add_sub_cancel, Nat.mul_one, List.map_cons, List.drop_one, List.tail_cons] at hsl hcap
      change _ = some (Value.int .u8 x) at hg
      have hadd : (⟨g, o, none⟩ : Addr).add 1 = ⟨g, o + 1, none⟩ := rfl
      have hsp : ∀ A', (A' = ⟨g, o, none⟩ ∨ A' = ⟨g, o + 1, none⟩) → spare (.slice (some A') t.length (cap - 1)) = none ∨ spare (.slice (some A') t.length (cap - 1)) = spare (.slice (some ⟨g, o, none⟩) (x :: t).length cap) ∨ ∃ g', spare (.slice (some A') t.length (cap - 1)) = some g' ∧ w.heap.size ≤ g' := by
        intro A' hA
        have hb : A'.block = g := by rcases hA with rfl | rfl <;> rfl
        by_cases hl : t.length < cap - 1
        · exact .inr (.inl (by simp only [spare, List.length_cons]; rw [if_pos hl, if_pos (by omega), hb]))
        · exact .inl (by simp only [spare]; rw [if_neg hl])
      have hqb : ∀ y ∈ t, 0 ≤ y ∧ y < 256 := fun y hy => h.qb y (by simp [hy])
      by_cases hc1 : cap = 1
      · rw [if_pos hc1] at hsl
        have HU := hide (h.setQ (q' := t) (grown_self w _) hsl (.inl rfl) (hsp _ (.inl rfl)) hqb)
        clear e1 e2 e3 e4 hsp hsl hqb
        subst hc1
        obtain rfl : t = [] := List.eq_nil_of_length_eq_zero (by omega)
        go_enter Try.func12, Try.ntmps12
        go_wp2
        go_ret2
        exact ⟨rfl, _, (unhide HU).1, (unhide HU).2⟩
      · rw [if_neg hc1, Option.map_some, hadd] at hsl
        have HU := hide (h.setQ (q' := t) (grown_self w _) hsl (.inl rfl) (hsp _ (.inr rfl)) hqb)
        clear e1 e2 e3 e4 hsp hsl hqb
        go_enter Try.func12, Try.ntmps12
        go_wp2
        go_ret2
        exact ⟨rfl, _, (unhide HU).1, (unhide HU).2⟩
  · have e2 : rV q wa lo sc 1 1 = btv wa 0 := by simp [rV, e1, btv]
    have e3 : rQ q 1 1 = q := by simp [rQ]
    have e4 : rLo lo 1 1 = lo := by simp [rLo]
    rw [e2, e3, e4]
    clear e1 e2 e3 e4
    go_enter Try.func12, Try.ntmps12
    go_wp2_with (go_at_call 23; refine (bit_any _ _ _ (.inl rfl)).mono ?_; rintro e w2 ⟨rfl, rfl⟩)
    go_ret2
    exact ⟨rfl, _, h, HT⟩
  · have e3 : rQ q 2 1 = q := by simp [rQ]
    have e4 : rLo lo 2 1 = lo := by simp [rLo]
    rw [e3, e4]
    cases hu : (wa && decide (0 < q.length))
    · have e2 : rV q wa lo sc 2 1 = 1 := by simp [rV, e1, hu]
      rw [e2]
      clear e1 e2 e3 e4
      go_enter Try.func12, Try.ntmps12
      go_wp2_with (go_at_call 18; refine (up_any h).mono ?_; rintro e w2 ⟨rfl, rfl⟩; rw [hu])
      go_ret2
      exact ⟨rfl, _, h, HT⟩
    · have e2 : rV q wa lo sc 2 1 = 4 := by simp [rV, e1, hu]
      rw [e2]
      clear e1 e2 e3 e4
      go_enter Try.func12, Try.ntmps12
      go_wp2_with (go_at_call 18; refine (up_any h).mono ?_; rintro e w2 ⟨rfl, rfl⟩; rw [hu])
      go_ret2
      exact ⟨rfl, _, h, HT⟩
  · have e3 : rQ q 5 1 = q := by simp [rQ]
    have e4 : rLo lo 5 1 = false := by simp [rLo, e1]
    rw [e3, e4]
    obtain ⟨A, cap, rfl, hcap⟩ := h.qs.parts
    have HU : Hid (∀ n, UU ((w.drewN n).setCell ⟨b, 3, none⟩ (.bool false)) b (.slice A q.length cap) sv q s wa false sc ∧ Turn w ((w.drewN n).setCell ⟨b, 3, none⟩ (.bool false)) (UC b (.slice A q.length cap) sv) (UC b (.slice A q.length cap) sv)) := fun n => by
      have h1 := (h.quiet (grown_drewN (grown_self w none) n)).setF (off := 3) (x := .bool false) (wa' := wa) (lo' := false) (sc' := sc) rfl h.c0 h.c1
      exact ⟨h1.1, (Turn.quiet (grown_drewN (grown_self w none) n) h.lt).trans h1.2⟩
    have e2 : Hid (rV q wa lo sc 5 1 = bits .or .u64 (bits .or .u64 96 (btv (decide (0 < q.length)) 0)) (btv lo 1)) := by
      have e5 : rV q wa lo sc 5 1 = 96 + (if decide (0 < q.length) then 1 else 0) + (if lo then 2 else 0) := by simp [rV, e1]
      unfold Hid
      rw [e5]
      generalize decide (0 < q.length) = d
      cases lo <;> cases d <;> rfl
    clear e1 e3 e4
    go_enter Try.func12, Try.ntmps12
    go_wp2
    go_quiet (first | (go_at_call 23; exact Calls.quiet_of_same (bit_any _ _ _ (.inl rfl))) | (go_at_call 23; exact Calls.quiet_of_same (bit_any _ _ _ (.inr rfl))))
    go_wp2
    go_ret2
    exact ⟨by rw [unhide e2]; rfl, _, (unhide HU _).1, (unhide HU _).2⟩
  · have e2 : rV q wa lo sc 7 1 = sc := by simp [rV, e1]
    have e3 : rQ q 7 1 = q := by simp [rQ]
    have e4 : rLo lo 7 1 = lo := by simp [rLo]
    rw [e2, e3, e4]
    have c0 := h.c0
    have c1 := h.c1
    have c2 : sc % 18446744073709551616 = sc := by omega
    clear e1 e2 e3 e4
    go_enter Try.func12, Try.ntmps12
    go_wp2
    go_ret2
    exact ⟨rfl, _, h, HT⟩
  · simp only [beq_eq_false_iff_ne] at n0 n1 n2 n5 n7
    have e2 : rV q wa lo sc at_ 1 = 0 := by simp [rV, n0, n1, n2, n5, n7]
    have e3 : rQ q at_ 1 = q := by simp [rQ, n0]
    have e4 : rLo lo at_ 1 = lo := by simp [rLo, n5]
    rw [e2, e3, e4]
    clear e1 e2 e3 e4
    rw [← beq_eq_false_iff_ne] at n0 n1 n2 n5 n7
    go_enter Try.func12, Try.ntmps12
    go_wp2
    go_ret2
    exact ⟨rfl, _, h, HT⟩

def Comp.add (A B : Comp) : Comp := ⟨fun x => A.own x ∨ B.own x, fun x => A.rd x ∨ B.rd x⟩
theorem Pack.split {w0 : World} {A B : Comp} {l : List Comp} (h : Pack w0 w (A.add B :: l)) (hd : Disj A B) : Pack w0 w (A :: B :: l) := by
  obtain ⟨h1, h2⟩ := List.pairwise_cons.1 h.apart
  have all1 : ∀ x, A.all x → (A.add B).all x := fun x hx => hx.elim (fun k => .inl (.inl k)) (fun k => .inr (.inl k))
  have all2 : ∀ x, B.all x → (A.add B).all x := fun x hx => hx.elim (fun k => .inl (.inr k)) (fun k => .inr (.inr k))
  refine ⟨h.below, ?_, ?_, ?_⟩
  · intro C hC x hx
    rcases List.mem_cons.1 hC with rfl | hC
    · exact h.base (C.add B) (by simp) x (.inl hx)
    · rcases List.mem_cons.1 hC with rfl | hC
      · exact h.base (A.add C) (by simp) x (.inr hx)
      · exact h.base _ (by simp [hC]) x hx
  · intro C hC x hx
    rcases List.mem_cons.1 hC with rfl | hC
    · exact h.lt (C.add B) (by simp) x (all1 x hx)
    · rcases List.mem_cons.1 hC with rfl | hC
      · exact h.lt (A.add C) (by simp) x (all2 x hx)
      · exact h.lt _ (by simp [hC]) x hx
  · refine List.pairwise_cons.2 ⟨fun C hC => ?_, List.pairwise_cons.2 ⟨fun C hC => ⟨fun x hx => (h1 C hC).one x (.inr hx), fun x hx hb => (h1 C hC).two x hx (all2 x hb)⟩, h2⟩⟩
    rcases List.mem_cons.1 hC with rfl | hC
    · exact hd
    · exact ⟨fun x hx => (h1 C hC).one x (.inl hx), fun x hx hb => (h1 C hC).two x hx (all1 x hb)⟩

theorem sblk_slice (A : Option Addr) (n c n' c' : Nat) : sblk (.slice A n c) = sblk (.slice A n' c') := by cases A <;> rfl
theorem spare_full (A : Option Addr) (n : Nat) : spare (.slice A n n) = none := by cases A <;> simp [spare]
theorem grown_drew2 {w1 : World} {row : Option Nat} (h : w.grownBy w1 row) : w.grownBy w1.drew.drew row := ⟨h.os, h.tape, h.output, h.size, h.block⟩
theorem copied {A A2 : Option Addr} {cap cap2 : Nat} (h : UU w b (.slice A q.length cap) (.slice A2 s.length cap2) q s wa lo sc) (hcap : q.length ≤ cap) (hcap2 : s.length ≤ cap2) :
    UU (((w.setCell ⟨b, 0, none⟩ (.slice A q.length q.length)).setCell ⟨b, 1, none⟩ (.slice A2 s.length s.length)).alloc (.cells #[.slice A q.length q.length, .slice A2 s.length s.length, .bool wa, .bool lo, .int .u8 sc] 43)).drew.drew b (.slice A q.length q.length) (.slice A2 s.length s.length) q s wa lo sc ∧
    UU (((w.setCell ⟨b, 0, none⟩ (.slice A q.length q.length)).setCell ⟨b, 1, none⟩ (.slice A2 s.length s.length)).alloc (.cells #[.slice A q.length q.length, .slice A2 s.length s.length, .bool wa, .bool lo, .int .u8 sc] 43)).drew.drew w.heap.size (.slice A q.length q.length) (.slice A2 s.length s.length) q s wa lo sc ∧
    Disj (UC b (.slice A q.length q.length) (.slice A2 s.length s.length)) (UC w.heap.size (.slice A q.length q.length) (.slice A2 s.length s.length)) ∧
    Turn w (((w.setCell ⟨b, 0, none⟩ (.slice A q.length q.length)).setCell ⟨b, 1, none⟩ (.slice A2 s.length s.length)).alloc (.cells #[.slice A q.length q.length, .slice A2 s.length s.length, .bool wa, .bool lo, .int .u8 sc] 43)).drew.drew (UC b (.slice A q.length cap) (.slice A2 s.length cap2)) ((UC b (.slice A q.length q.length) (.slice A2 s.length s.length)).add (UC w.heap.size (.slice A q.length q.length) (.slice A2 s.length s.length))) := by
  have hq' := h.qs.front (k := q.length) (c := q.length) (Nat.le_refl _) (Nat.le_refl _) hcap
  have hs' := h.ss.front (k := s.length) (c := s.length) (Nat.le_refl _) (Nat.le_refl _) hcap2
  rw [List.take_of_length_le (by simp)] at hq' hs'
  obtain ⟨h1, t1⟩ := h.setQ (qv' := .slice A q.length q.length) (q' := q) (grown_self w _) hq' (.inl (sblk_slice ..)) (.inl (spare_full _ _)) h.qb
  have hs2 := hs'.set (b := b) (off := 0) (x := .slice A q.length q.length) (by rw [sblk_slice A2 _ _ s.length cap2]; exact h.ns)
  obtain ⟨h2, t2⟩ := h1.setS (sv' := .slice A2 s.length s.length) (s' := s) (grown_self _ _) hs2 (.inl (sblk_slice ..)) (.inl (spare_full _ _)) h.sb
  have hsz : ((w.setCell ⟨b, 0, none⟩ (.slice A q.length q.length)).setCell ⟨b, 1, none⟩ (.slice A2 s.length s.length)).heap.size = w.heap.size := by simp [World.setCell]
  revert h2 t2 hsz
  have tt := t1
  generalize (w.setCell ⟨b, 0, none⟩ (.slice A q.length q.length)) = wm at *
  generalize (wm.setCell ⟨b, 1, none⟩ (.slice A2 s.length s.length)) = w2
  intro h2 t2 hsz
  have hg := grown_drew2 (grown_alloc (grown_self w2 none) (.cells #[.slice A q.length q.length, .slice A2 s.length s.length, .bool wa, .bool lo, .int .u8 sc] 43))
  have h3 := h2.quiet hg
  have hbl := lt_of_heap h.heap
  have nq : sblk (.slice A q.length q.length) ≠ some w.heap.size := fun e => by have := h2.qs.blk_lt e; omega
  have ns : sblk (.slice A2 s.length s.length) ≠ some w.heap.size := fun e => by have := h2.ss.blk_lt e; omega
  have hN : UU (w2.alloc (.cells #[.slice A q.length q.length, .slice A2 s.length s.length, .bool wa, .bool lo, .int .u8 sc] 43)).drew.drew w.heap.size (.slice A q.length q.length) (.slice A2 s.length s.length) q s wa lo sc :=
    ⟨by rw [← hsz]; exact heap_new w2 _, h3.qs, h3.ss, nq, ns, by rw [spare_full]; simp, by rw [spare_full]; simp, h.qb, h.sb, h.c0, h.c1⟩
  refine ⟨h3, hN, ⟨?_, ?_⟩, ?_⟩
  · rintro x (rfl | hx | hx)
    · rintro ((e | hx | hx) | hx | hx)
      · omega
      · rw [spare_full] at hx; cases hx
      · rw [spare_full] at hx; cases hx
      · exact h2.nq hx
      · exact h2.ns hx
    · rw [spare_full] at hx; cases hx
    · rw [spare_full] at hx; cases hx
  · rintro x (rfl | hx | hx)
    · rintro ((e | hx | hx) | hx | hx)
      · omega
      · rw [spare_full] at hx; cases hx
      · rw [spare_full] at hx; cases hx
      · exact nq hx
      · exact ns hx
    · rw [spare_full] at hx; cases hx
    · rw [spare_full] at hx; cases hx
  · refine (t1.trans t2).trans (.of_grown hg (by simp) ?_ ?_ ?_)
    · rintro x (hx | rfl | hx | hx)
      · exact .inl hx
      · exact .inr (by omega)
      · rw [spare_full] at hx; cases hx
      · rw [spare_full] at hx; cases hx
    · rintro x ((hx | rfl | hx | hx) | hx | hx)
      · exact .inl (.inl hx)
      · exact .inr (by omega)
      · rw [spare_full] at hx; cases hx
      · rw [spare_full] at hx; cases hx
      · exact .inl (.inr hx)
      · exact .inl (.inr hx)
    · rintro x ((hx | hx) | hx | hx)
      · exact h3.lt x (.inl hx)
      · exact hN.lt x (.inl hx)
      · exact h3.lt x (.inr hx)
      · exact hN.lt x (.inr hx)

theorem copy_any (h : UU w b qv sv q s wa lo sc) : Calls Try.prog 14 #[.pointer (some ⟨b, 0, none⟩)] w fun e w' =>
    ∃ b' qv' sv', e = .returned (.pointer (some ⟨b', 0, none⟩)) ∧ UU w' b qv' sv' q s wa lo sc ∧ UU w' b' qv' sv' q s wa lo sc ∧ Disj (UC b qv' sv') (UC b' qv' sv') ∧
      Turn w w' (UC b qv sv) ((UC b qv' sv').add (UC b' qv' sv')) := by
  obtain ⟨A, cap, rfl, hcap⟩ := h.qs.parts
  obtain ⟨A2, cap2, rfl, hcap2⟩ := h.ss.parts
  have hc := cells5 h.heap
  have hlt := lt_of_heap h.heap
  have HH := hide (copied h hcap hcap2)
  go_enter Try.func14, Try.ntmps14
  go_wp2
  go_region
  go_wp2
  go_region
  go_wp2
  go_ret
  exact ⟨_, _, _, rfl, unhide HH⟩
end
end Go.Proofs.Ytaholijnfekkgaa
