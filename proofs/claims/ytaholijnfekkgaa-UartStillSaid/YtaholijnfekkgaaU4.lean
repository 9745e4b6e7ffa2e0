/- The reference's port: its copy. -/
import Derived.Test.YtaholijnfekkgaaU3
import Derived.Deep.RegionHeld3
namespace Go.Proofs.Ytaholijnfekkgaa
open Go.RowKit

def E0 (w : World) (k : Nat) : Prop := ∃ (cur : Array Value) (T : TypeId), w.heap[k]? = some (.cells cur T (0, 0))
section
variable {w w' : World} {k : Nat} {row : Option Nat}
theorem E0.new (w : World) (c : Array Value) (T : TypeId) {k : Nat} (hk : k = w.heap.size) : E0 (w.alloc (.cells c T)) k := hk ▸ ⟨c, T, heap_new w _⟩
theorem E0.lt (h : E0 w k) : k < w.heap.size := by obtain ⟨_, _, h⟩ := h; exact lt_of_heap h
theorem E0.kept (h : E0 w k) (hg : w.grownBy w' none) : E0 w' k := by obtain ⟨c, T, h⟩ := h; exact ⟨c, T, grown_heap h hg⟩
theorem grown_drew {w1 : World} (h : w.grownBy w1 row) : w.grownBy w1.drew row := ⟨h.os, h.tape, h.output, h.size, h.block⟩
theorem E0.alloc (h : E0 w k) (o : Obj) : E0 (w.alloc o) k := h.kept (grown_alloc (grown_self w none) o)
theorem E0.drew (h : E0 w k) : E0 w.drew k := h.kept (grown_drew (grown_self w none))
end

section
variable {P : Program} {w : World}
theorem step_append_fresh {ops : Array Oper} {o : Oper} {a : Act} {K : Act → World → Prop} {Q : Exit → Act → World → Prop} {E : Prop} (hgd : o.guard = none) (s x : Operand) (t : TypeId)
    (ho : o.op = .call { callee := .builtin .append, args := #[s, x], argTypes := #[t, t] })
    (e : TypeId) (i : TypeInfo) (z : Value) (sz bytes : Nat) (ht : P.underlying t = some (.slice e)) (hi : P.info? e = some i) (hz : i.zero = some z)
    (hsize : i.size = sz) (hby : i.bytes = bytes) (hzs : z.cells.size = sz)
    {k : Nat} {u : Value} {m : Nat} {ys : List Value} (hs : a.eval s = .slice (some ⟨k, 0, none⟩) 0 0) (hk : E0 w k) (hx : a.eval x = u) (hu : Sl w sz u m ys) (h1 : ∀ y ∈ ys, y.oneCell' = true)
    (h63 : m ≤ 9223372036854775807) (hbytes : m * bytes ≤ 140737488355328)
    (h : ∀ g of cp w', Sl w' sz (.slice (some ⟨g, of, none⟩) m cp) m ys → w.grownBy w' none → (g = k ∨ g = w.heap.size) → k < w.heap.size → g < w'.heap.size → w.heap.size ≤ w'.heap.size → K (a.put o.dst (.slice (some ⟨g, of, none⟩) m cp)) w') :
    if Region.wanted o (yielded ops a.tmps) = true then Oper.wp P o a w K Q else E := by
  have hw : Region.wanted o (yielded ops a.tmps) = true := by simp [Region.wanted, hgd]
  rw [if_pos hw]
  obtain ⟨cur, T, hh⟩ := hk
  have hv : Sl w sz (.slice (some ⟨k, 0, none⟩) 0 0) 0 [] := ⟨by simp, .inr ⟨k, 0, 0, cur, T, rfl, hh, Nat.le_refl _, by simp, by simp⟩⟩
  refine wp_append_sl s x t ho e i z sz bytes ht hi hz hsize hby hzs hs hx hv hu h1 (by omega) (by simpa using hbytes) fun v' w' h2 h3 h4 h5 => ?_
  simp only [Nat.zero_add, List.nil_append] at h2
  have hb : ∃ g, sblk v' = some g ∧ (g = k ∨ g = w.heap.size) := by
    rcases h4 with e | e
    · exact ⟨k, e, .inl rfl⟩
    · exact ⟨_, e, .inr rfl⟩
  obtain ⟨g, hg, hgk⟩ := hb
  have hf : ∃ of cp, v' = .slice (some ⟨g, of, none⟩) m cp := by
    rcases h2.form with ⟨e, _⟩ | ⟨g', of, cp, _, _, e, _⟩
    · rw [e] at hg; cases hg
    · rw [e] at hg; injection hg with hg; exact ⟨of, cp, by rw [e, ← hg]⟩
  obtain ⟨of, cp, rfl⟩ := hf
  exact h g of cp w' h2 h3 hgk (lt_of_heap hh) (h2.blk_lt hg) h3.size
end

section
variable {w w' : World} {b : Nat} {qv sv : Value} {q s : List Int} {rd : Nat} {wa lo : Bool} {sc : Int}
theorem cells6r {a0 a1 a2 a3 a4 a5 : Value} {T : TypeId} (h : w.heap[b]? = some (.cells #[a0, a1, a2, a3, a4, a5] T (0, 0))) :
    w.cell? ⟨b, 0, none⟩ = some a0 ∧ w.cell? ⟨b, 1, none⟩ = some a1 ∧ w.cell? ⟨b, 2, none⟩ = some a2 ∧ w.cell? ⟨b, 3, none⟩ = some a3 ∧ w.cell? ⟨b, 4, none⟩ = some a4 ∧ w.cell? ⟨b, 5, none⟩ = some a5 := by
  simp [World.cell?, h]

theorem copyR_fin (h : RU w b qv sv q s rd wa lo sc) {W : World} {g1 o1 c1 g2 o2 c2 : Nat} (s1 : Sl W 1 (.slice (some ⟨g1, o1, none⟩) q.length c1) q.length (q.map bv)) (s2 : Sl W 1 (.slice (some ⟨g2, o2, none⟩) s.length c2) s.length (s.map bv))
    (hg : w.grownBy W none) (k1 : w.heap.size ≤ g1) (k2 : w.heap.size ≤ g2) (hne : g1 ≠ g2) :
    RU (W.alloc (.cells #[.slice (some ⟨g1, o1, none⟩) q.length c1, .slice (some ⟨g2, o2, none⟩) s.length c2, .int .i64 (rd : Int), .int .u64 (btv wa 0), .int .u64 (btv lo 0), .int .u64 sc] 45)) W.heap.size (.slice (some ⟨g1, o1, none⟩) q.length c1) (.slice (some ⟨g2, o2, none⟩) s.length c2) q s rd wa lo sc ∧
    Turn w (W.alloc (.cells #[.slice (some ⟨g1, o1, none⟩) q.length c1, .slice (some ⟨g2, o2, none⟩) s.length c2, .int .i64 (rd : Int), .int .u64 (btv wa 0), .int .u64 (btv lo 0), .int .u64 sc] 45)) Comp.none (UC W.heap.size (.slice (some ⟨g1, o1, none⟩) q.length c1) (.slice (some ⟨g2, o2, none⟩) s.length c2)) := by
  have l1 : g1 < W.heap.size := s1.blk_lt rfl
  have l2 : g2 < W.heap.size := s2.blk_lt rfl
  have p1 : ∀ x, spare (.slice (some ⟨g1, o1, none⟩) q.length c1) = some x → x = g1 := by
    intro x hx; have := spare_blk hx; injection this with e; exact e.symm
  have p2 : ∀ x, spare (.slice (some ⟨g2, o2, none⟩) s.length c2) = some x → x = g2 := by
    intro x hx; have := spare_blk hx; injection this with e; exact e.symm
  have b1 : ∀ x, sblk (.slice (some ⟨g1, o1, none⟩) q.length c1) = some x → x = g1 := by
    intro x hx; injection hx with e; exact e.symm
  have b2 : ∀ x, sblk (.slice (some ⟨g2, o2, none⟩) s.length c2) = some x → x = g2 := by
    intro x hx; injection hx with e; exact e.symm
  have hU : RU (W.alloc (.cells #[.slice (some ⟨g1, o1, none⟩) q.length c1, .slice (some ⟨g2, o2, none⟩) s.length c2, .int .i64 (rd : Int), .int .u64 (btv wa 0), .int .u64 (btv lo 0), .int .u64 sc] 45)) W.heap.size (.slice (some ⟨g1, o1, none⟩) q.length c1) (.slice (some ⟨g2, o2, none⟩) s.length c2) q s rd wa lo sc := by
    refine ⟨heap_new W _, s1.alloc _, s2.alloc _, ?_, ?_, ?_, ?_, h.qb, h.sb, h.hr, h.c0, h.c1⟩
    · intro e; have := b1 _ e; omega
    · intro e; have := b2 _ e; omega
    · intro g hg e; have := p1 _ hg; have := b2 _ e; omega
    · intro g hg e; have := p2 _ hg; have := b1 _ e; omega
  refine ⟨hU, .of_grown (grown_alloc hg _) (by simp) ?_ ?_ hU.lt⟩
  · have := hg.size
    rintro x (rfl | e | e)
    · exact .inr (by omega)
    · have := p1 _ e; exact .inr (by omega)
    · have := p2 _ e; exact .inr (by omega)
  · have := hg.size
    rintro x ((rfl | e | e) | e | e)
    · exact .inr (by omega)
    · have := p1 _ e; exact .inr (by omega)
    · have := p2 _ e; exact .inr (by omega)
    · have := b1 _ e; exact .inr (by omega)
    · have := b2 _ e; exact .inr (by omega)

set_option maxRecDepth 100000 in
set_option maxHeartbeats 3200000 in
theorem copyR_any (h : RU w b qv sv q s rd wa lo sc) (hq : q.length ≤ 140737488355328) (hs : s.length ≤ 140737488355328) : Calls Try.prog 15 #[.pointer (some ⟨b, 0, none⟩)] w fun e w' =>
    ∃ b' qv' sv', e = .returned (.pointer (some ⟨b', 0, none⟩)) ∧ RU w' b' qv' sv' q s rd wa lo sc ∧ Turn w w' Comp.none (UC b' qv' sv') := by
  obtain ⟨i0, hi, hz0, hz1, hz2⟩ := info_parts info5
  obtain ⟨A, cap, rfl, hcap⟩ := h.qs.parts
  obtain ⟨A2, cap2, rfl, hcap2⟩ := h.ss.parts
  have hc := cells6 h.heap
  have hb := h.heap
  have hlt := lt_of_heap h.heap
  have hqs := h.qs
  have hss := h.ss
  have hq63 : q.length ≤ 9223372036854775807 := by omega
  have hs63 : s.length ≤ 9223372036854775807 := by omega
  have hqb : q.length * 1 ≤ 140737488355328 := by omega
  have hsb : s.length * 1 ≤ 140737488355328 := by omega
  go_enter Try.func15, Try.ntmps15
  go_wp2
  go_region_held3 (fun w' => w'.cell? ⟨b, 0, none⟩ = some (.slice A q.length cap) ∧ w'.cell? ⟨b, 1, none⟩ = some (.slice A2 s.length cap2) ∧ w'.cell? ⟨b, 2, none⟩ = some (.int .i64 (rd : Int)) ∧ w'.cell? ⟨b, 3, none⟩ = some (.int .u64 (btv wa 0)) ∧ w'.cell? ⟨b, 4, none⟩ = some (.int .u64 (btv lo 0)) ∧ w'.cell? ⟨b, 5, none⟩ = some (.int .u64 sc))
    (exact cells6r (grown_heap hb (by (repeat (first | with_reducible exact grown_self _ _ | assumption | with_reducible refine grown_drew ?_ | with_reducible refine grown_alloc ?_ _ | with_reducible refine grown_trans ?_ ‹World.grownBy _ _ none›)))))
    (first
      | ((refine step_append_fresh (by rfl) _ _ 35 (by rfl) 5 i0 _ 1 1 Try.underlying35 hi hz0 hz1 hz2 (by rfl) (by rfl) (by (repeat (first | assumption | (with_reducible refine E0.new _ _ _ ?_; simp; done) | with_reducible refine E0.drew ?_ | with_reducible refine E0.alloc ?_ _ | with_reducible refine E0.kept ?_ ‹World.grownBy _ _ none›))) (by rfl) (hqs.kept (row := none) (by (repeat (first | with_reducible exact grown_self _ _ | assumption | with_reducible refine grown_drew ?_ | with_reducible refine grown_alloc ?_ _ | with_reducible refine grown_trans ?_ ‹World.grownBy _ _ none›))) (fun _ _ h => by cases h)) (bv_one q) hq63 hqb ?_; intro g1 o1 c1 w1 hsl1 hgr1 hgk1 hk1 hl1 hm1))
      | ((refine step_append_fresh (by rfl) _ _ 35 (by rfl) 5 i0 _ 1 1 Try.underlying35 hi hz0 hz1 hz2 (by rfl) (by rfl) (by (repeat (first | assumption | (with_reducible refine E0.new _ _ _ ?_; simp; done) | with_reducible refine E0.drew ?_ | with_reducible refine E0.alloc ?_ _ | with_reducible refine E0.kept ?_ ‹World.grownBy _ _ none›))) (by rfl) (hss.kept (row := none) (by (repeat (first | with_reducible exact grown_self _ _ | assumption | with_reducible refine grown_drew ?_ | with_reducible refine grown_alloc ?_ _ | with_reducible refine grown_trans ?_ ‹World.grownBy _ _ none›))) (fun _ _ h => by cases h)) (bv_one s) hs63 hsb ?_; intro g2 o2 c2 w2 hsl2 hgr2 hgk2 hk2 hl2 hm2)))
  all_goals go_wp2
  all_goals go_ret
  all_goals refine ⟨_, _, _, rfl, copyR_fin h (by first | assumption | exact hsl1.kept (row := none) (by (repeat (first | with_reducible exact grown_self _ _ | assumption | with_reducible refine grown_drew ?_ | with_reducible refine grown_alloc ?_ _ | with_reducible refine grown_trans ?_ ‹World.grownBy _ _ none›))) (fun _ _ h => by cases h)) (by first | assumption | exact hsl2.kept (row := none) (by (repeat (first | with_reducible exact grown_self _ _ | assumption | with_reducible refine grown_drew ?_ | with_reducible refine grown_alloc ?_ _ | with_reducible refine grown_trans ?_ ‹World.grownBy _ _ none›))) (fun _ _ h => by cases h)) (by (repeat (first | with_reducible exact grown_self _ _ | assumption | with_reducible refine grown_drew ?_ | with_reducible refine grown_alloc ?_ _ | with_reducible refine grown_trans ?_ ‹World.grownBy _ _ none›))) ?_ ?_ ?_⟩
  all_goals
    clear hsl1 hsl2 hgr1 hgr2
    try simp only [World.size_alloc, World.size_drew] at hgk1
    try simp only [World.size_alloc, World.size_drew] at hk1
    try simp only [World.size_alloc, World.size_drew] at hm1
    try simp only [World.size_alloc, World.size_drew] at hgk2
    try simp only [World.size_alloc, World.size_drew] at hk2
    try simp only [World.size_alloc, World.size_drew] at hm2
    omega
end
end Go.Proofs.Ytaholijnfekkgaa
