/- Layer 20: a range over the items without a variable. -/
import Derived.Test.YtblbgalpkodibaaDoorFR
namespace Go.Proofs.YtblbgalpkodibaaDoor
open Go.RowKit Go.Shelf
set_option maxHeartbeats 1000000 in
theorem range_skip {γ : Type} {w0 W1 : World} {box b g : Nat} {F : Fr} {A : Option Addr} {cap : Nat} {gop : Operand} {p : Tmp} {body : Code} {Q : Exit → Act → World → Prop} {a : Act}
    (M : List It → List HP) (pI : List It → Prop) (px : Code → List It → γ → Prop) (Lx : γ → List HP)
    (hg : a.eval gop = .func (.func 37) #[] #[.pointer (some ⟨box, 0, none⟩)]) (hI : FI F)
    (hM : ∀ pre, CoB W1.heap.size (M pre)) (hLx : ∀ y, CoB W1.heap.size (Lx y)) (h0 : pI [])
    (hh : Heap w0 W1 (HP.blk box #[.pointer (some ⟨b, 0, none⟩)] 25 :: FB b g F (.slice A F.q.length cap) (M [])))
    (hbody : ∀ (l : Nat) (pre : List It) (x : It) (W : World), pI pre → pre.length < F.q.length → Heap w0 W (HP.restB W1.heap.size W :: FB b g F (.slice A F.q.length cap) (M pre)) →
      body.wpIn (Fence.wide.inRound l) 4 Tryd.prog (roundPost W1.heap.size w0 b g F (.slice A F.q.length cap) M pI px Lx (pre ++ [x]) W) { tmps := a.tmps.setIfInBounds p (.agg (itl x).toArray), defers := [] } W)
    (hdone : ∀ (D : Nat) (W : World), pI F.q → Heap w0 W (HP.obj D (.deferred (some [])) :: FB b g F (.slice A F.q.length cap) (M F.q)) → Q .normal { a with defers := { target := .collected D, args := #[] } :: a.defers } W)
    (hstop : ∀ (D : Nat) (cd : Code) (pre : List It) (y : γ) (W : World), px cd pre y → pre <+: F.q → Heap w0 W (HP.obj D (.deferred (some [])) :: Lx y) → cd.wpIn Fence.wide 6 Tryd.prog Q { a with defers := { target := .collected D, args := #[] } :: a.defers } W) :
    (Code.rangeFunc gop #[p] Code.skip body).wp Tryd.prog Q a W1 := by
  have hB0 : w0.heap.size ≤ W1.heap.size := hh.below.size
  have hbc := hh.heap
  have hC1 : FC W1 b g F A cap := by
    have h2 := hh.tail
    unfold FB at h2
    exact ⟨h2.heap, lt_of_heap' h2.heap, h2.f2.slw, hI⟩
  refine (wpIn_wide (n := 6)).1 ?_
  refine wpIn_rangeFunc_ownH (F := Fence.wide) (n := 6) rfl (by decide) (gf := 37) (lb := #[.pointer (some ⟨box, 0, none⟩)]) hg trivial (enters_of Tryd.func37 (by kernel_rfl) rfl)
    (items_stops (n := 5) (cell1 hbc) (lt_of_heap' hbc) hC1) KpS.trans (fun W_ l_ o_ o'_ _ hl_ ho_ _ => KpS.put W_ l_ o_ o'_ hl_ ho_) (Below.refl _ _) (fun _ => rfl)
    (fun pre W_ => pI pre ∧ W1.heap.size ≤ W_.heap.size ∧ Heap w0 W_ (FB b g F (.slice A F.q.length cap) (M pre)))
    (fun cd pre W_ => ∃ y, px cd pre y ∧ Heap w0 W_ (Lx y))
    (OwnFrom.and ownFrom_const (OwnFrom.and (fun _ _ _ _ hs_ hg_ _ => Nat.le_trans hs_ hg_.size) (ownFrom_heapB hB0 fun pre => (hM pre).fb))) (fun cd => ownFrom_ex fun y => OwnFrom.and ownFrom_const (ownFrom_heapB hB0 fun _ => hLx y))
    ⟨h0, Nat.le_refl _, hh.tail⟩
    (fun x a' _ => a' = { tmps := a.tmps.setIfInBounds p (.agg (itl x).toArray), defers := [] })
    (fun _ _ _ _ _ _ hs_ _ _ => hs_)
    ?assign ?body ?done ?stop
  case assign =>
    rintro l pre x W K ⟨hp0, hz0, hI0⟩ hK
    apply wpIn_skip
    exact hK _ _ (KeepsFrom.refl _ _) (fun h => h) ⟨hp0, hz0, hI0⟩ (by simp)
  case body =>
    rintro l pre x a' W hl _ ⟨hp0, hz0, hI0⟩ rfl hlt
    refine wpIn_mono (hbody l pre x W hp0 hlt (Heap.restB (hM pre).fb hI0)) ?_
    rintro e a3 W3 hpost
    cases e with
    | normal =>
      obtain ⟨hz, hp3, hh3⟩ := hpost
      have h4 := hh3.tail
      unfold FB at h4
      exact ⟨Heap.keepsB hz hh3, fun _ => h4.f2.slw, hp3, Nat.le_trans hz0 hz, hh3.tail⟩
    | ret =>
      obtain ⟨hz, y, hp3, hh3⟩ := hpost
      exact ⟨Heap.keepsB hz hh3, y, hp3, hh3.tail⟩
    | exit id =>
      obtain ⟨hz, y, hp3, hh3⟩ := hpost
      exact ⟨Heap.keepsB hz hh3, y, hp3, hh3.tail⟩
    | goto t => exact hpost.elim
    | panic c => exact hpost.elim
    | outgrown => exact hpost.elim
  case done =>
    rintro D ys W hD hys ⟨hp1, _, hI1⟩ hK
    subst hys
    exact hdone D W hp1 (Heap.addObj (hM _).fb hI1 hK rfl hB0 hD)
  case stop =>
    rintro D cd pre W hD hpre ⟨y, hp1, hI1⟩ hK
    exact hstop D cd pre y W hp1 hpre (Heap.addObj (hLx y) hI1 hK rfl hB0 hD)
end Go.Proofs.YtblbgalpkodibaaDoor
