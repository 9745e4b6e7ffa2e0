/- Layer 20: Redirect; the iterator of Items. -/
import Derived.Test.YtblbgalpkodibaaDoorF4
import Derived.Test.YtblbgalpkodibaaDoorRegion
import Derived.RangeFuncNested
import Derived.RangeFuncBound
import Derived.RangeFuncCalls
import Derived.RangeFuncLeaves
import Derived.WalkKit
import Derived.OwnWalkIn
import Derived.TacticsInMore
import Derived.LoopNIn
import Derived.LoopIn
namespace Go.Proofs.YtblbgalpkodibaaDoor
open Go.RowKit
attribute [local go_sem] Oper.semAt_some
section
variable {w0 w w' : World} {L : List HP} {b g : Nat} {F : Fr} {c : St}
theorem frv_one (g : Nat) (F : Fr) (A : Option Addr) (n cap : Nat) : (frv g F (.slice A n cap)).toArray.all (·.oneCell') = true := all_oneCell_toArray (fun v hv => by
  unfold frv at hv
  simp only [List.mem_cons, List.mem_nil_iff, or_false] at hv
  rcases hv with rfl | rfl | rfl | rfl | rfl | rfl <;> rfl)
set_option maxRecDepth 100000 in
set_option maxHeartbeats 1000000 in
theorem redirect_f (h : Heap w0 w (HP.fr b g F :: L)) (pc : Int) (p0 : 0 ≤ pc) (p1 : pc < 18446744073709551616) :
    Calls Tryd.prog 18 #[.pointer (some ⟨b, 0, none⟩), .int .u64 pc] w fun r w' => r = .returned (.tuple #[]) ∧ Heap w0 w' (HP.fr b g (newF pc) :: L) := by
  obtain ⟨A, cap, hC, _⟩ := h.fc
  obtain ⟨d0, _, _, _, _, _⟩ := hC.cells
  have hbl := hC.lt
  have H := hide h
  clear h hC
  go_enter Tryd.func18, Tryd.ntmps18
  go_wp2_with fail
  refine (new_f (g := g) (unhide H) pc p0 p1).mono ?_
  rintro r w1 ⟨b', rfl, h1⟩
  obtain ⟨A1, cap1, hC1, hh1⟩ := h1.fc
  unfold FB at hh1
  obtain ⟨A2, cap2, hC2, hh2⟩ := hh1.f3.fc
  unfold FB at hh2
  have hR := range_blk hC1.blk 0 6 (frv g (newF pc) (.slice A1 (newF pc).q.length cap1)) rfl
  have hT := there_blk hC2.blk (o := 0) (n := 6) (show 0 + 6 ≤ 6 by decide)
  have hb1 := hC1.lt
  have hb2 := hC2.lt
  have H1 := hide h1
  have hS := hide ((Heap.sets (frv g (newF pc) (.slice A1 (newF pc).q.length cap1)) hh2 0))
  have hI := hide (FI.new ⟨p0, p1⟩)
  clear hbl H d0 hC1 hC2 hh1 hh2 h1
  go_wp2_with (first
    | refine wpList_load_mid rfl 72 _ rfl b' 0 rfl (frv g (newF pc) (.slice A1 (newF pc).q.length cap1)) _ hR Tryd.underlying72 rfl (by kernel_rfl) ?_
    | (refine wpList_store_mid rfl 72 (.tmp 13) (.tmp 12) rfl b 0 (frv g (newF pc) (.slice A1 (newF pc).q.length cap1)).toArray rfl rfl hT (by kernel_rfl) (frv_one _ _ _ _ _) ?_
       refine unhide ?_))
  refine hide ?_
  go_wp2
  refine bodyPost_end (v := .tuple #[]) (by simp [results, Tryd.results18, go_sem]) rfl ⟨rfl, ?_⟩
  have hS := unhide hS
  rw [setL_all _ _ (by rfl)] at hS
  exact Heap.fr.2 ⟨_, unhide hI, hS.f4.f2.f3.tail.f3.tail⟩
/-- What a round of a loop over the items keeps. -/
def KpS (v : Value) (q : List It) (W W' : World) : Prop := Sl W 13 v q.length (itsC q) → Sl W' 13 v q.length (itsC q)
theorem KpS.trans {v : Value} {q : List It} {A B C : World} (h : KpS v q A B) (k : KpS v q B C) : KpS v q A C := fun x => k (h x)
theorem KpS.put {v : Value} {q : List It} (W : World) (l : Nat) (o o' : Obj) (hl : W.heap[l]? = some o) (ho : o.isCells = false) : KpS v q W (W.putObj l o') := fun h =>
  h.kept (grownBy_putObj' W l o') (fun g hg e => by
    injection e with e
    subst e
    obtain ⟨o2, h1, h2⟩ := h.co hg
    rw [hl] at h1
    injection h1 with h1
    rw [← h1, ho] at h2
    cases h2)
theorem take_snoc {q : List It} {k : Nat} {x : It} (h : q[k]? = some x) : q.take (k + 1) = q.take k ++ [x] := by rw [List.take_add_one, h]; rfl
set_option maxRecDepth 100000 in
set_option maxHeartbeats 2000000 in
theorem items_iter {n l box : Nat} {v : Value} {A : Option Addr} {cap : Nat} (hv : v = .slice A F.q.length cap) (J Jx : List It → World → Prop) {B : Nat} (hJ : AbidesFrom B J)
    (hY : ∀ pre x W1, J pre W1 → pre.length < F.q.length → YieldAt Fence.wide (n - 1) Tryd.prog l #[.agg (itl x).toArray] W1 fun e W' =>
      (e = .returned (.bool true) ∧ J (pre ++ [x]) W' ∧ KpS v F.q W1 W') ∨ (e = .returned (.bool false) ∧ Jx (pre ++ [x]) W'))
    {W : World} (hbox : W.cell? ⟨box, 0, none⟩ = some (.pointer (some ⟨b, 0, none⟩))) (hC : FC W b g F A cap) (h0 : J [] W) :
    CallsIn Fence.wide n Tryd.prog 37 #[.func (.yield l) #[] #[], .pointer (some ⟨box, 0, none⟩)] W fun e W' => (∃ v, e = .returned v) ∧ ((∃ xs, xs = F.q ∧ J xs W') ∨ (∃ pre, pre <+: F.q ∧ Jx pre W')) := by
  have d5 := hC.cells.2.2.2.2.2
  have hbl := hC.lt
  have hlen := hC.I.len
  have hS0 := hC.sl
  rw [← hv] at hS0
  clear hC
  have HY := hide hY
  clear hY
  obtain ⟨m, hm⟩ : ∃ m, F.q.length = m := ⟨_, rfl⟩
  rw [hm] at d5 hlen hv
  have Hm := hide hm
  clear hm
  refine callsIn_of_wp Tryd.func37 rfl trivial ?_ rfl
  simp only [Tryd.ntmps37, List.size_toArray, List.length_cons, List.length_nil, Nat.reduceAdd, Nat.reduceSub, Array.replicate_succ, Array.replicate_zero, List.push_toArray, List.append_toArray, List.nil_append, List.cons_append]
  gi_wp2
  gi_loopw [10] (fun i wr => ∃ k : Nat, i = .int .i64 k ∧ k ≤ m ∧ J (F.q.take k) wr ∧ Sl wr 13 v F.q.length (itsC F.q)) (fun i _ => m - (intOf i).toNat)
  case atStart => exact ⟨0, rfl, Nat.zero_le _, h0, hS0⟩
  case round =>
    obtain ⟨k, rfl, hk, hJk, hSl⟩ := hrel
    by_cases hlt : k < m
    · obtain ⟨x, hx⟩ : ∃ x, F.q[k]? = some x := ⟨_, List.getElem?_eq_getElem (by have := unhide Hm; omega)⟩
      obtain ⟨g1, o1, cap1, hv1, _⟩ := hSl.addr (by rw [unhide Hm]; omega)
      obtain ⟨hA, _⟩ : A = some ⟨g1, o1, none⟩ ∧ True := by
        rw [hv] at hv1
        injection hv1 with h1 _ _
        exact ⟨h1, trivial⟩
      subst hA
      rw [hv] at hSl
      have hrange : wr.rangeAt g1 (o1 + k * 13) (itl x) := fun j u hj => by
        have hj13 : j < 13 := by
          have := (List.getElem?_eq_some_iff.1 hj).1
          simpa [itl_len] using this
        have h1 := (hSl.cells_at (by rw [unhide Hm]) (k * 13 + j) u (by rw [itsC_get hj13 hx]; exact hj))
        rw [Addr.add_mid] at h1
        rw [show o1 + k * 13 + j = o1 + (k * 13 + j) by omega]
        exact h1
      have hgl := (hSl.blk_lt (g := g1) rfl)
      have Hrange := hide hrange
      have HSl := hide hSl
      clear hrange hSl
      gi_wp2_with (first
        | refine listW_of rfl (by intro c hc; cases hc) fun K_ hK_ => wp_load_mid 38 _ rfl g1 (o1 + k * 13) rfl (itl x) _ (unhide Hrange) Tryd.underlying38 rfl (by kernel_rfl) (hK_ _ _ ?_)
        | (refine listW_of rfl (by intro c hc; cases hc) fun K_ hK_ => wp_store_mid 38 (.tmp 4) (.tmp 13) rfl wr.heap.size 0 (itl x).toArray rfl rfl (there_new _ _ _ rfl) (by kernel_rfl) (all_oneCell_toArray (itl_cell x)) (hK_ _ _ ?_)
           refine unhide ?_))
      have hN := (Heap.nil wr).clone #[.int .u64 0, .int .u32 0, .int .u32 0, .int .i64 0, .int .u64 0, .int .u64 0, .int .u64 0, .int .u64 0, .int .u64 0, .int .u64 0, .int .u64 0, .int .i64 0, .int .u64 0] 38 (itl x) rfl
      have hG := gn_of_below hN.below
      have hb4 := hN.heap
      have hl4 := lt_of_heap' hb4
      obtain ⟨kb, hkb⟩ : ∃ kb, wr.heap.size = kb := ⟨_, rfl⟩
      rw [hkb] at hG hb4 hl4 ⊢
      generalize (World.setCells (wr.alloc (.cells #[.int .u64 0, .int .u32 0, .int .u32 0, .int .i64 0, .int .u64 0, .int .u64 0, .int .u64 0, .int .u64 0, .int .u64 0, .int .u64 0, .int .u64 0, .int .i64 0, .int .u64 0] 38)) kb 0 (itl x)) = w2 at hG hb4 hl4 ⊢
      clear hN
      have hJ2 := hJ _ _ _ none hJk hG (fun r e => by cases e)
      have HSl := hide ((unhide HSl).gn hG)
      have hr4 := range_blk hb4 0 13 (itl x) rfl
      have Hr4 := hide hr4
      obtain ⟨fn, tmps, assign, body, hy, hR⟩ := unhide HY _ x w2 hJ2 (by rw [List.length_take]; have := unhide Hm; omega)
      have HR := hide hR
      clear hG hr4 hJk hb4 Hrange hR
      refine hide ?_
      gi_wp2_with (refine listW_of rfl (by intro c hc; cases hc) fun K_ hK_ => wp_load_mid 38 _ rfl kb 0 rfl (itl x) _ (unhide Hr4) Tryd.underlying38 rfl (by kernel_rfl) (hK_ _ _ ?_))
      refine ⟨fun h_ => (by cases h_), (unhide HR).mono ?_⟩
      rintro e W3 (⟨rfl, hJ3, hk3⟩ | ⟨rfl, hJx3⟩)
      · have hS3 : Sl W3 13 v F.q.length (itsC F.q) := hk3 (by rw [hv]; exact unhide HSl)
        clear hk3 HR HSl
        gi_wp2
        go_roundw
        case rel => exact ⟨k + 1, by simp, by omega, by rw [take_snoc hx]; exact hJ3, hS3⟩
        case measure => simp [intOf]; omega
      · gi_wp2
        refine bodyPost_ret (results_none rfl _ _ _) rfl ?_
        exact ⟨⟨_, rfl⟩, .inr ⟨_, List.take_prefix (k + 1) _, by rw [take_snoc hx]; exact hJx3⟩⟩
    · obtain rfl : k = m := by omega
      gi_wp2
      go_end0
      exact ⟨⟨_, rfl⟩, .inl ⟨_, rfl, by rw [← unhide Hm, List.take_length] at hJk; exact hJk⟩⟩
/-- What Items hands back goes through the queue. -/
theorem items_stops {n box : Nat} {A : Option Addr} {cap : Nat} (hbox : w.cell? ⟨box, 0, none⟩ = some (.pointer (some ⟨b, 0, none⟩))) (hbl : box < w.heap.size) (hC : FC w b g F A cap) :
    SeqStopsK Fence.wide n Tryd.prog 37 #[.pointer (some ⟨box, 0, none⟩)] (fun x : It => #[Value.agg (itl x).toArray]) (KpS (.slice A F.q.length cap) F.q) (fun ys => ys = F.q) (fun pre => pre <+: F.q) F.q.length w := fun _l J Jx _W hW hJ _ hY h0 =>
  items_iter rfl J Jx hJ hY ((hW.cell (p := ⟨box, 0, none⟩) hbl).trans hbox) (hC.gn (gn_of_below hW)) h0
end
end Go.Proofs.YtblbgalpkodibaaDoor
