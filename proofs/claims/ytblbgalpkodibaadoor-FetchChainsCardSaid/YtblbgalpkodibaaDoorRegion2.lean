/- A region that draws its order, two of whose operations turn the state. No program. -/
import Derived.Test.YtblbgalpkodibaaDoorRegion
namespace Go.Proofs.YtblbgalpkodibaaDoor
open Go.RowKit

section
variable {P : Program} {ops : Array Oper} {Q : Exit → Act → World → Prop} {K : Bool → Bool → World → Prop} {i i1 i2 : Nat} {o : Oper} {a : Act}

def J2 (i1 i2 : Nat) (K : Bool → Bool → World → Prop) (c : Array Bool) (w : World) : Prop := K (c.getD i1 false) (c.getD i2 false) w
theorem getD_set_other {c : Array Bool} {i j : Nat} (h : i ≠ j) : (c.setIfInBounds i true).getD j false = c.getD j false := by
  simp [Array.getElem?_setIfInBounds_ne h]
theorem getD_set_at {c : Array Bool} {i : Nat} (h : c.getD i true = false) : (c.setIfInBounds i true).getD i false = true := by
  rcases Nat.lt_or_ge i c.size with h' | h'
  · simp [h']
  · simp [Array.getElem?_eq_none h'] at h
theorem j2val (h1 : i ≠ i1) (h2 : i ≠ i2) (c : Value) (h : ∀ a1 a2 w, K a1 a2 w → Region.wanted o (yielded ops a.tmps) = true ∧ (execOp a.eval o).run P w = .ok (.value c) w) : JStep P ops (J2 i1 i2 K) i o a c := by
  refine ⟨fun listed w hJ hr => ?_⟩
  obtain ⟨e1, e2⟩ := h _ _ w hJ
  rw [if_pos e1, e2]
  refine ⟨rfl, ?_⟩
  unfold J2
  rw [getD_set_other h1, getD_set_other h2]
  exact hJ
theorem j2call (h1 : i ≠ i1) (h2 : i ≠ i2) (f : FuncId) (args : Array Value) (c : Value) (h : ∀ a1 a2 w, K a1 a2 w → Region.wanted o (yielded ops a.tmps) = true ∧ (execOp a.eval o).run P w = .ok (.enter f args) w ∧ Calls P f args w fun e w' => e = .returned c ∧ K a1 a2 w') : JStep P ops (J2 i1 i2 K) i o a c := by
  refine ⟨fun listed w hJ hr => ?_⟩
  obtain ⟨e1, e2, e3⟩ := h _ _ w hJ
  rw [if_pos e1, e2]
  refine e3.mono fun e w' ⟨he, hK⟩ => ⟨he, ?_⟩
  unfold J2
  rw [getD_set_other h1, getD_set_other h2]
  exact hK
theorem j2one (h12 : i1 ≠ i2) (f : FuncId) (args : Array Value) (c : Value) (h : ∀ a2 w, K false a2 w → Region.wanted o (yielded ops a.tmps) = true ∧ (execOp a.eval o).run P w = .ok (.enter f args) w ∧ Calls P f args w fun e w' => e = .returned c ∧ K true a2 w') : JStep P ops (J2 i1 i2 K) i1 o a c := by
  refine ⟨fun listed w hJ hr => ?_⟩
  obtain ⟨hun, _⟩ := mem_ready.1 hr
  unfold J2 at hJ
  rw [getD_both' hun] at hJ
  obtain ⟨e1, e2, e3⟩ := h _ w hJ
  rw [if_pos e1, e2]
  refine e3.mono fun e w' ⟨he, hK⟩ => ⟨he, ?_⟩
  unfold J2
  rw [getD_set_at hun, getD_set_other h12]
  exact hK
theorem j2two (h12 : i2 ≠ i1) (f : FuncId) (args : Array Value) (c : Value) (h : ∀ a1 w, K a1 false w → Region.wanted o (yielded ops a.tmps) = true ∧ (execOp a.eval o).run P w = .ok (.enter f args) w ∧ Calls P f args w fun e w' => e = .returned c ∧ K a1 true w') : JStep P ops (J2 i1 i2 K) i2 o a c := by
  refine ⟨fun listed w hJ hr => ?_⟩
  obtain ⟨hun, _⟩ := mem_ready.1 hr
  unfold J2 at hJ
  rw [getD_both' hun] at hJ
  obtain ⟨e1, e2, e3⟩ := h _ w hJ
  rw [if_pos e1, e2]
  refine e3.mono fun e w' ⟨he, hK⟩ => ⟨he, ?_⟩
  unfold J2
  rw [getD_set_at hun, getD_set_other h12]
  exact hK
/-- The same walk with the values known ahead. -/
def wpV (P : Program) (ops : Array Oper) (J : Array Bool → World → Prop) (vals : Nat → Value) : Nat → List Oper → Act → Prop
  | _, [], _ => True
  | i, o :: rest, a => JStep P ops J i o a (vals i) ∧ wpV P ops J vals (i + 1) rest (a.put o.dst (vals i))
theorem wpV_nil {J : Array Bool → World → Prop} {vals : Nat → Value} : wpV P ops J vals i [] a := trivial
theorem wpV_cons {J : Array Bool → World → Prop} {vals : Nat → Value} {rest : List Oper} {v : Value} (he : vals i = v) (h : JStep P ops J i o a v) (k : wpV P ops J vals (i + 1) rest (a.put o.dst v)) : wpV P ops J vals i (o :: rest) a := by
  subst he
  exact ⟨h, k⟩
theorem wpV_J {J : Array Bool → World → Prop} {vals : Nat → Value} : ∀ (rest : List Oper) (i : Nat) (a : Act), wpV P ops J vals i rest a → wpJ P ops J (fun b => b = fillG vals i rest a) i rest a
  | [], _, _, _ => rfl
  | _ :: rest, i, _, ⟨h, k⟩ => ⟨_, h, wpV_J rest (i + 1) _ k⟩
theorem wp_region_V {id : Nat} {a0 : Act} {w0 : World} (J : Array Bool → World → Prop) (vals : Nat → Value)
    (hm : P.follows .mixedOrders = true) (hok : regionOk ops = true)
    (h0 : J (Array.replicate ops.size false) w0.drew)
    (hwalk : wpV P ops J vals 0 ops.toList a0)
    (hfin : ∀ w, J (Array.replicate ops.size true) w → Q .normal (fillG vals 0 ops.toList a0) w) : (Code.region id ops true).wp P Q a0 w0 :=
  wp_region_J J hm hok h0 (wpV_J _ _ _ hwalk) fun _ w he hJ => he ▸ hfin w hJ
theorem J2.start {n : Nat} {w : World} (h : K false false w) : J2 i1 i2 K (Array.replicate n false) w := by
  unfold J2
  rw [getD_replicate_false', getD_replicate_false']
  exact h
theorem J2.done {n : Nat} {w : World} (h : J2 i1 i2 K (Array.replicate n true) w) (h1 : i1 < n) (h2 : i2 < n) : K true true w := by
  unfold J2 at h
  simp [h1, h2] at h
  exact h
end
end Go.Proofs.YtblbgalpkodibaaDoor
