/- Walks in a round of a range over a function: what is no defer goes there as it goes anywhere. No program. -/
import Derived.Test.YtblbgalpkodibaaDoorRegion
import Derived.RangeFuncNested
import Derived.RangeFuncCalls
import Derived.OrdersIn
import Derived.OwnWalkIn
import Derived.TacticsInMore
import Derived.BigFrameIn
namespace Go.Proofs.YtblbgalpkodibaaDoor
open Go.RowKit
variable {P : Program} {l n : Nat}
def noDefer (ops : Array Oper) : Bool := ops.toList.all fun o => match o.op with | .defer _ => false | _ => true
theorem noDefer_of {ops : Array Oper} (h : noDefer ops = true) : ∀ o ∈ ops, ∀ c, o.op ≠ .defer c := fun o ho c e => by
  have := List.all_eq_true.1 h o (Array.mem_toList_iff.2 ho)
  rw [e] at this
  cases this
theorem rows_in {row : String} {args : Array Value} {w : World} {R : Value → World → Prop} (h : Rows P row args w R) : RowsIn (Fence.wide.inRound l) n P row args w R :=
  fun c cs _ => let ⟨v, w', r, s⟩ := h c cs; ⟨v, w', r, stepsIn_wide.2 s⟩
theorem oper_in {o : Oper} {a : Act} {w : World} {K : Act → World → Prop} {Q : Exit → Act → World → Prop} (hd : ∀ c, o.op ≠ .defer c) (h : o.wp P a w K Q) : o.wpIn (Fence.wide.inRound l) n P a w K Q := by
  unfold Oper.wpIn
  refine ⟨fun _ _ => trivial, ?_⟩
  rw [Oper.semAt_plain _ _ _ hd]
  unfold Oper.wp at h
  generalize (execOp a.eval o).run P w = r at *
  cases r with
  | ok x w' =>
    cases x <;> simp only [Oper.upon, Oper.uponIn] at h ⊢ <;>
      first
        | exact h
        | exact ⟨fun h_ => (by cases h_), CallsIn.inRound l (callsIn_wide.2 h)⟩
        | exact ⟨fun h_ => (by cases h_), rows_in h⟩
        | exact h.elim
  | halt x w' => cases x <;> simp only [Oper.upon, Oper.uponIn] at h ⊢ <;> exact h
theorem rows_wide {row : String} {args : Array Value} {w : World} {R : Value → World → Prop} (h : Rows P row args w R) : RowsIn Fence.wide n P row args w R :=
  fun c cs _ => let ⟨v, w', r, s⟩ := h c cs; ⟨v, w', r, stepsIn_wide.2 s⟩
theorem oper_wide {o : Oper} {a : Act} {w : World} {K : Act → World → Prop} {Q : Exit → Act → World → Prop} (hd : ∀ c, o.op ≠ .defer c) (h : o.wp P a w K Q) : o.wpIn Fence.wide n P a w K Q := by
  unfold Oper.wpIn
  refine ⟨fun _ _ => trivial, ?_⟩
  rw [Oper.semAt_plain _ _ _ hd]
  unfold Oper.wp at h
  generalize (execOp a.eval o).run P w = r at *
  cases r with
  | ok x w' =>
    cases x <;> simp only [Oper.upon, Oper.uponIn] at h ⊢ <;>
      first
        | exact h
        | exact ⟨fun h_ => (by cases h_), callsIn_wide.2 h⟩
        | exact ⟨fun h_ => (by cases h_), rows_wide h⟩
        | exact h.elim
  | halt x w' => cases x <;> simp only [Oper.upon, Oper.uponIn] at h ⊢ <;> exact h
section
variable {ops : Array Oper} {rest : List Oper} {o : Oper} {a : Act} {w : World} {Q : Exit → Act → World → Prop}
/-- An operation of a plain list, by a law that speaks of its own continuation. -/
theorem listIn_of (hgd : o.guard = none) (hd : ∀ c, o.op ≠ .defer c) (h : ∀ K : Act → World → Prop, (∀ a w, wpListIn (Fence.wide.inRound l) n P ops Q rest a w → K a w) → o.wp P a w K Q) : wpListIn (Fence.wide.inRound l) n P ops Q (o :: rest) a w :=
  wpListIn_plain hgd fun K hK => oper_in hd (h K hK)
theorem listW_of (hgd : o.guard = none) (hd : ∀ c, o.op ≠ .defer c) (h : ∀ K : Act → World → Prop, (∀ a w, wpListIn Fence.wide n P ops Q rest a w → K a w) → o.wp P a w K Q) : wpListIn Fence.wide n P ops Q (o :: rest) a w :=
  wpListIn_plain hgd fun K hK => oper_wide hd (h K hK)
theorem wpOp_in {i : Nat} {K : Act → World → Prop} (hd : ∀ o ∈ ops, ∀ c, o.op ≠ .defer c) (hQ : ¬ LetsOut Q) (h : wpOp P ops Q i K a w) : wpOpIn (Fence.wide.inRound l) n P ops Q i K a w := by
  unfold wpOp at h
  unfold wpOpIn
  cases ho : ops[i]? with
  | none => rw [ho] at h; exact h
  | some o =>
    simp only [ho] at h ⊢
    split
    · rename_i hw
      rw [if_pos hw] at h
      rcases h with h | ⟨_, h⟩
      · exact oper_in (hd o (Array.mem_of_getElem? ho)) h
      · exact absurd h hQ
    · rename_i hw
      rw [if_neg hw] at h
      exact ⟨fun _ _ => trivial, h⟩
theorem wpAny_in {md : Region.Mode} (hd : ∀ o ∈ ops, ∀ c, o.op ≠ .defer c) (hQ : ¬ LetsOut Q) : ∀ (fuel : Nat) (listed : Array Bool) (a : Act) (w : World), wpAny P md ops Q fuel listed a w → wpAnyIn (Fence.wide.inRound l) n P md ops Q fuel listed a w := by
  intro fuel
  induction fuel with
  | zero => intro listed a w h; exact h
  | succ fuel ih =>
    intro listed a w h
    exact ⟨h.1, fun i hi => wpOpIn_mono (fun a w => ih _ a w) (wpOp_in hd hQ (h.2 i hi))⟩
/-- A region that draws its order, in a round; the last operation turns the state. -/
theorem wpIn_region_E {nF id n : Nat} {a0 : Act} {w0 : World} {ol : Oper} (J : World → Prop) (M : World → World → Prop) (Φ : Nat → Value → World → Prop)
    (hm : P.follows .mixedOrders = true) (hd : ∀ o ∈ ops, ∀ c, o.op ≠ .defer c) (hQ : ¬ LetsOut Q) (hok : regionOk ops = true) (h0 : J w0.drew)
    (hM : ∀ k v w w', Φ k v w → M w w' → Φ k v w')
    (hn : ops.size = n + 1) (hol : ops[n]? = some ol) (hgl : ol.guard = none) (hlead : leadsTo ops = true)
    (hwalk : ∀ vals, wpG P ops J M Φ vals 0 (ops.toList.take n) a0)
    (hfin : ∀ vals w, J w → (∀ k, k < n → Φ k (vals k) w) → ol.wp P (fillG vals 0 (ops.toList.take n) a0) w (Q .normal) Q) : (Code.region id ops true).wpIn (Fence.wide.inRound l) nF P Q a0 w0 :=
  wpIn_region_any hm (wpAny_in hd hQ _ _ _ _ (any_region_E J M Φ hok h0 hM hn hol hgl hlead hwalk hfin))
end
end Go.Proofs.YtblbgalpkodibaaDoor
