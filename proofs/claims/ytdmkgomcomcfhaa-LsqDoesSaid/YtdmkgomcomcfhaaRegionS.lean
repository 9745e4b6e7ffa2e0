/- A region that draws its order, some of whose operations store. No program. -/
import Derived.Test.YtdmkgomcomcfhaaRegion1
namespace Go.Proofs.Ytdmkgomcomcfhaa
open Go.RowKit

section
variable {P : Program} {ops : Array Oper} {Q : Exit → Act → World → Prop} {K : (Nat → Bool) → World → Prop} {i : Nat} {S : List Nat} {o : Oper} {a : Act}

/-- Which of the stores have come. -/
def came (S : List Nat) (c : Array Bool) (s : Nat) : Bool := decide (s ∈ S) && c.getD s false
structure JE (S : List Nat) (K : (Nat → Bool) → World → Prop) (c : Array Bool) (w : World) : Prop where
  now : K (came S c) w
theorem came_other {c : Array Bool} (h : i ∉ S) : came S (c.setIfInBounds i true) = came S c := by
  funext s
  unfold came
  by_cases hs : s ∈ S
  · rw [getD_set_other (by rintro rfl; exact h hs)]
  · simp [hs]
theorem came_at {c : Array Bool} (h : i ∈ S) (hun : c.getD i true = false) : came S (c.setIfInBounds i true) = fun s => if s = i then true else came S c s := by
  funext s
  unfold came
  by_cases hs : s = i
  · subst hs; rw [getD_set_at hun]; simp [h]
  · rw [getD_set_other (fun e => hs e.symm), if_neg hs]
theorem jeEarly (hS : i ∉ S) {v : Value} (h : ∀ f w, K f w → Region.wanted o (yielded ops a.tmps) = true ∧ JUpon P (K f) v ((execOp a.eval o).run P w)) : JStep P ops (JE S K) i o a v := by
  refine ⟨fun listed w hJ hr => ?_⟩
  obtain ⟨e1, e2⟩ := h _ w hJ.now
  rw [if_pos e1]
  refine e2.imp fun w' hK => ⟨?_⟩
  rw [came_other hS]; exact hK
theorem jeVal (hS : i ∉ S) (c : Value) (h : ∀ f w, K f w → Region.wanted o (yielded ops a.tmps) = true ∧ (execOp a.eval o).run P w = .ok (.value c) w) : JStep P ops (JE S K) i o a c :=
  jeEarly hS fun f w hK => ⟨(h f w hK).1, jup_val (h f w hK).2 hK⟩
theorem jeOp (hS : i ∉ S) (m : Sem Value) (c : Value) (h : ∀ f w, K f w → Region.wanted o (yielded ops a.tmps) = true ∧ execOp a.eval o = (do let r ← m; pure (.value r)) ∧ m.run P w = .ok c w) : JStep P ops (JE S K) i o a c :=
  jeEarly hS fun f w hK => ⟨(h f w hK).1, jup_op (h f w hK).2.1 (h f w hK).2.2 hK⟩
theorem jeStore (hi : i ∈ S) (m : Sem Unit) (h : ∀ f w, K f w → Region.wanted o (yielded ops a.tmps) = true ∧ execOp a.eval o = (do m; pure Next.skip) ∧ ∃ w', m.run P w = .ok () w' ∧ K (fun s => if s = i then true else f s) w') : JStep P ops (JE S K) i o a undef := by
  refine ⟨fun listed w hJ hr => ?_⟩
  obtain ⟨hun, _⟩ := mem_ready.1 hr
  obtain ⟨e1, e2, w', e3, hK⟩ := h _ w hJ.now
  rw [if_pos e1, e2, Sem.run_bind, e3]
  exact ⟨rfl, ⟨by rw [came_at hi hun]; exact hK⟩⟩
theorem JE.start {n : Nat} {w : World} (h : K (fun _ => false) w) : JE S K (Array.replicate n false) w := ⟨by
  have : came S (Array.replicate n false) = fun _ => false := by funext s; unfold came; rw [getD_replicate_false']; simp
  rw [this]; exact h⟩
theorem JE.done {n : Nat} {w : World} (h : JE S K (Array.replicate n true) w) (hS : ∀ s ∈ S, s < n) : K (fun s => decide (s ∈ S)) w := by
  have e : came S (Array.replicate n true) = fun s => decide (s ∈ S) := by
    funext s
    unfold came
    by_cases hs : s ∈ S
    · have := hS s hs
      simp [hs, this]
    · simp [hs]
  have := h.now
  rwa [e] at this
end
end Go.Proofs.Ytdmkgomcomcfhaa
