/- Layer 20: a range over the items. -/
import Derived.Test.YtblbgalpkodibaaDoorF5
import Derived.Test.YtblbgalpkodibaaDoorOwnB
import Derived.Shelf.Abstract
namespace Go.Proofs.YtblbgalpkodibaaDoor
open Go.RowKit Go.Shelf
theorem KpS.gn {v : Value} {q : List It} {W W' : World} (h : GN W W') : KpS v q W W' := fun s => s.gn h
theorem keeps_gn {W W' : World} (h : GN W W') (B : Nat) : KeepsFrom B W W' := (KeepsOthers.grown h (fun _ e => by cases e)).from B
/-- A new block that is filled at once: what a range's variable is laid in. -/
theorem new_var {W : World} (x : It) : Heap W ((W.alloc (.cells #[.int .u64 0, .int .u32 0, .int .u32 0, .int .i64 0, .int .u64 0, .int .u64 0, .int .u64 0, .int .u64 0, .int .u64 0, .int .u64 0, .int .u64 0, .int .i64 0, .int .u64 0] 38)).setCells W.heap.size 0 (itl x)) [HP.blk W.heap.size (itl x).toArray 38] := (Heap.nil W).clone #[.int .u64 0, .int .u32 0, .int .u32 0, .int .i64 0, .int .u64 0, .int .u64 0, .int .u64 0, .int .u64 0, .int .u64 0, .int .u64 0, .int .u64 0, .int .i64 0, .int .u64 0] 38 (itl x) rfl
theorem CoB.fb {B b g : Nat} {F : Fr} {v : Value} {L : List HP} (h : CoB B L) : CoB B (FB b g F v L) := .blk (.slw h)
theorem cell1 {W : World} {k : Nat} {v : Value} {T : TypeId} (h : W.heap[k]? = some (.cells #[v] T (0, 0))) : W.cell? ⟨k, 0, none⟩ = some v := (cells1 h).1
/-- What a round owes. -/
def roundPost {γ : Type} (B : Nat) (w0 : World) (b g : Nat) (F : Fr) (v : Value) (M : List It → List HP) (pI : List It → Prop) (px : Code → List It → γ → Prop) (Lx : γ → List HP) (pre : List It) (W : World) : Exit → Act → World → Prop
  | .normal, _, W' => W.heap.size ≤ W'.heap.size ∧ pI pre ∧ Heap w0 W' (HP.restB B W :: FB b g F v (M pre))
  | .ret, _, W' => W.heap.size ≤ W'.heap.size ∧ ∃ y, px .ret pre y ∧ Heap w0 W' (HP.restB B W :: Lx y)
  | .exit id, _, W' => W.heap.size ≤ W'.heap.size ∧ ∃ y, px (.exit id) pre y ∧ Heap w0 W' (HP.restB B W :: Lx y)
  | _, _, _ => False
set_option maxHeartbeats 1000000 in
theorem range_items {γ : Type} {w0 W1 : World} {box b g : Nat} {F : Fr} {A : Option Addr} {cap : Nat} {gop : Operand} {p s : Tmp} {id : Nat} {o1 o2 : Oper} {body : Code} {Q : Exit → Act → World → Prop} {a : Act}
    (M : List It → List HP) (pI : List It → Prop) (px : Code → List It → γ → Prop) (Lx : γ → List HP)
    (hg : a.eval gop = .func (.func 37) #[] #[.pointer (some ⟨box, 0, none⟩)]) (hI : FI F)
    (ho1 : o1.op = .alloc 38) (hd1 : o1.dst = some s) (hg1 : o1.guard = none) (ho2 : o2.op = .store 38 (.tmp s) (.tmp p)) (hd2 : o2.dst = none) (hg2 : o2.guard = none)
    (hp : p < a.tmps.size) (hs : s < a.tmps.size) (hsp : s ≠ p)
    (hM : ∀ pre, CoB W1.heap.size (M pre)) (hLx : ∀ y, CoB W1.heap.size (Lx y)) (h0 : pI [])
    (hh : Heap w0 W1 (HP.blk box #[.pointer (some ⟨b, 0, none⟩)] 25 :: FB b g F (.slice A F.q.length cap) (M [])))
    (hbody : ∀ (l : Nat) (pre : List It) (x : It) (kx : Nat) (W : World), pI pre → pre.length < F.q.length → W1.heap.size ≤ kx → W.heap[kx]? = some (.cells (itl x).toArray 38 (0, 0)) → Heap w0 W (HP.restB W1.heap.size W :: FB b g F (.slice A F.q.length cap) (M pre)) →
      body.wpIn (Fence.wide.inRound l) 4 Tryd.prog (roundPost W1.heap.size w0 b g F (.slice A F.q.length cap) M pI px Lx (pre ++ [x]) W) { tmps := (a.tmps.setIfInBounds p (.agg (itl x).toArray)).setIfInBounds s (.pointer (some ⟨kx, 0, none⟩)), defers := [] } W)
    (hdone : ∀ (D : Nat) (W : World), pI F.q → Heap w0 W (HP.obj D (.deferred (some [])) :: FB b g F (.slice A F.q.length cap) (M F.q)) → Q .normal { a with defers := { target := .collected D, args := #[] } :: a.defers } W)
    (hstop : ∀ (D : Nat) (cd : Code) (pre : List It) (y : γ) (W : World), px cd pre y → pre <+: F.q → Heap w0 W (HP.obj D (.deferred (some [])) :: Lx y) → cd.wpIn Fence.wide 6 Tryd.prog Q { a with defers := { target := .collected D, args := #[] } :: a.defers } W) :
    (Code.rangeFunc gop #[p] (Code.region id #[o1, o2] false) body).wp Tryd.prog Q a W1 := by
  have hB0 : w0.heap.size ≤ W1.heap.size := hh.below.size
  have hbc := hh.heap
  have hC1 : FC W1 b g F A cap := by
    have h2 := hh.tail
    unfold FB at h2
    exact ⟨h2.heap, lt_of_heap' h2.heap, h2.f2.slw, hI⟩
  refine (wpIn_wide (n := 6)).1 ?_
  refine wpIn_rangeFunc_ownH (F := Fence.wide) (n := 6) rfl (by decide) (gf := 37) (lb := #[.pointer (some ⟨box, 0, none⟩)]) hg trivial (enters_of Tryd.func37 (by kernel_rfl) rfl)
    (items_stops (n := 5) (cell1 hbc) (lt_of_heap' hbc) hC1) KpS.trans (fun W_ l_ o_ o'_ _ hl_ ho_ _ => KpS.put W_ l_ o_ o'_ hl_ ho_) (Below.refl _ _) (fun _ => rfl)
    (fun pre W_ => pI pre ∧ W1.heap.size ≤ W_.heap.size ∧ Heap w0 W_ (FB b g F (.slice A F.q.length cap) (M pre)))
    (fun cd pre W_ => ∃ y, px cd pre y ∧ Heap w0 W_ (Lx y))
    (OwnFrom.and ownFrom_const (OwnFrom.and (fun _ _ _ _ hs_ hg_ _ => Nat.le_trans hs_ hg_.size) (ownFrom_heapB hB0 fun pre => (hM pre).fb))) (fun cd => ownFrom_ex fun y => OwnFrom.and ownFrom_const (ownFrom_heapB hB0 fun _ => hLx y))
    ⟨h0, Nat.le_refl _, hh.tail⟩
    (fun x a' W_ => ∃ kx, a' = { tmps := (a.tmps.setIfInBounds p (.agg (itl x).toArray)).setIfInBounds s (.pointer (some ⟨kx, 0, none⟩)), defers := [] } ∧ W1.heap.size ≤ kx ∧ W_.heap[kx]? = some (.cells (itl x).toArray 38 (0, 0)))
    (fun x a' _ W_ W'_ row hs_ hg_ hr_ => by
      obtain ⟨kx, h1, h2, h3⟩ := hs_
      exact ⟨kx, h1, h2, (hg_.block kx (lt_of_heap' h3) (fun e => by
        obtain ⟨_, o, h4, h5⟩ := hr_ kx e.symm
        rw [h3] at h4
        injection h4 with h4
        rw [← h4] at h5
        cases h5)).trans h3⟩)
    ?assign ?body ?done ?stop
  case assign =>
    rintro l pre x W K ⟨hp0, hz0, hI0⟩ hK
    have hG := gn_of_below (new_var (W := W) x).below
    refine wpIn_region_lit (l := [o1, o2]) ?_
    refine listIn_of hg1 (by rw [ho1]; intro c hc; cases hc) fun K1 hK1 => ?_
    have hal : ∀ (ρ : Operand → Value) (W : World), (execOp ρ (Oper.mk none (.alloc 38) 0 "" #[] none)).run Tryd.prog W = .ok (.value (.pointer (some ⟨W.heap.size, 0, none⟩))) (W.alloc (.cells #[.int .u64 0, .int .u32 0, .int .u32 0, .int .i64 0, .int .u64 0, .int .u64 0, .int .u64 0, .int .u64 0, .int .u64 0, .int .u64 0, .int .u64 0, .int .i64 0, .int .u64 0] 38)) := fun ρ W => by kernel_rfl
    have hr : ∀ (ρ : Operand → Value) (W : World), (execOp ρ o1).run Tryd.prog W = .ok (.value (.pointer (some ⟨W.heap.size, 0, none⟩))) (W.alloc (.cells #[.int .u64 0, .int .u32 0, .int .u32 0, .int .i64 0, .int .u64 0, .int .u64 0, .int .u64 0, .int .u64 0, .int .u64 0, .int .u64 0, .int .u64 0, .int .i64 0, .int .u64 0] 38)) := fun ρ W => by
      rw [← hal ρ W]
      unfold execOp
      rw [ho1]
    unfold Oper.wp
    rw [hr]
    show K1 (Act.put _ o1.dst _) _
    rw [hd1]
    refine hK1 _ _ ?_
    refine listIn_of hg2 (by rw [ho2]; intro c hc; cases hc) fun K2 hK2 => wp_store_mid 38 (.tmp s) (.tmp p) ho2 W.heap.size 0 (itl x).toArray ?_ ?_ (there_new _ _ _ rfl) (by kernel_rfl) (all_oneCell_toArray (itl_cell x)) (hK2 _ _ (wpListIn_nil ?_))
    · simp [Act.eval, Act.put, hs]
    · simp [Act.eval, Act.put, hp, hsp]
    · have hN := hI0.grown hG
      rw [hd2]
      refine hK _ _ (keeps_gn hG _) (KpS.gn hG) ⟨hp0, Nat.le_trans hz0 hG.size, hN⟩ ⟨W.heap.size, ?_, hz0, (new_var (W := W) x).heap⟩
      simp [Act.put]
  case body =>
    rintro l pre x a' W hl _ ⟨hp0, hz0, hI0⟩ ⟨kx, rfl, hkB, hkx⟩ hlt
    refine wpIn_mono (hbody l pre x kx W hp0 hlt hkB hkx (Heap.restB (hM pre).fb hI0)) ?_
    rintro e a3 W3 hpost
    cases e with
    | normal =>
      obtain ⟨hz, hp3, hh3⟩ := hpost
      have h4 := hh3.tail
      unfold FB at h4
      exact ⟨Heap.keepsB hz hh3, fun _ => h4.f2.slw, hp3, Nat.le_trans hz0 hz, hh3.tail⟩
    | ret =>
      obtain ⟨hz, y, hp3, hh3⟩ := hpost
      exact ⟨Heap.keepsB hz hh3, y, hp3, hh3.tail⟩
    | exit id =>
      obtain ⟨hz, y, hp3, hh3⟩ := hpost
      exact ⟨Heap.keepsB hz hh3, y, hp3, hh3.tail⟩
    | goto t => exact hpost.elim
    | panic c => exact hpost.elim
    | outgrown => exact hpost.elim
  case done =>
    rintro D ys W hD hys ⟨hp1, _, hI1⟩ hK
    subst hys
    exact hdone D W hp1 (Heap.addObj (hM _).fb hI1 hK rfl hB0 hD)
  case stop =>
    rintro D cd pre W hD hpre ⟨y, hp1, hI1⟩ hK
    exact hstop D cd pre y W hp1 hpre (Heap.addObj (hLx y) hI1 hK rfl hB0 hD)
end Go.Proofs.YtblbgalpkodibaaDoor
