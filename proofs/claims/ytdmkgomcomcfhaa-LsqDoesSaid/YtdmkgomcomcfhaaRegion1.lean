/- A region that draws its order, one of whose operations turns the state. No program. -/
import Derived.Test.YtdmkgomcomcfhaaRegion3
namespace Go.Proofs.Ytdmkgomcomcfhaa
open Go.RowKit

section
variable {P : Program} {ops : Array Oper} {Q : Exit → Act → World → Prop} {K : Bool → World → Prop} {i i1 : Nat} {o : Oper} {a : Act}

structure J1 (i1 : Nat) (K : Bool → World → Prop) (c : Array Bool) (w : World) : Prop where
  now : K (c.getD i1 false) w
theorem j1early (h1 : i ≠ i1) {v : Value} (h : ∀ a1 w, K a1 w → Region.wanted o (yielded ops a.tmps) = true ∧ JUpon P (K a1) v ((execOp a.eval o).run P w)) : JStep P ops (J1 i1 K) i o a v := by
  refine ⟨fun listed w hJ hr => ?_⟩
  obtain ⟨e1, e2⟩ := h _ w hJ.now
  rw [if_pos e1]
  refine e2.imp fun w' hK => ⟨?_⟩
  rw [getD_set_other h1]; exact hK
theorem j1val (h1 : i ≠ i1) (c : Value) (h : ∀ a1 w, K a1 w → Region.wanted o (yielded ops a.tmps) = true ∧ (execOp a.eval o).run P w = .ok (.value c) w) : JStep P ops (J1 i1 K) i o a c :=
  j1early h1 fun a1 w hK => ⟨(h a1 w hK).1, jup_val (h a1 w hK).2 hK⟩
theorem j1op (h1 : i ≠ i1) (m : Sem Value) (c : Value) (h : ∀ a1 w, K a1 w → Region.wanted o (yielded ops a.tmps) = true ∧ execOp a.eval o = (do let r ← m; pure (.value r)) ∧ m.run P w = .ok c w) : JStep P ops (J1 i1 K) i o a c :=
  j1early h1 fun a1 w hK => ⟨(h a1 w hK).1, jup_op (h a1 w hK).2.1 (h a1 w hK).2.2 hK⟩
theorem j1call (h1 : i ≠ i1) (f : FuncId) (args : Array Value) (c : Value) (h : ∀ a1 w, K a1 w → Region.wanted o (yielded ops a.tmps) = true ∧ (execOp a.eval o).run P w = .ok (.enter f args) w ∧ Calls P f args w fun e w' => e = .returned c ∧ K a1 w') : JStep P ops (J1 i1 K) i o a c :=
  j1early h1 fun a1 w hK => ⟨(h a1 w hK).1, jup_call (h a1 w hK).2.1 (h a1 w hK).2.2⟩
/-- The store. -/
theorem j1store (m : Sem Unit) (h : ∀ w, K false w → Region.wanted o (yielded ops a.tmps) = true ∧ execOp a.eval o = (do m; pure Next.skip) ∧ ∃ w', m.run P w = .ok () w' ∧ K true w') : JStep P ops (J1 i1 K) i1 o a undef := by
  refine ⟨fun listed w hJ hr => ?_⟩
  obtain ⟨hun, _⟩ := mem_ready.1 hr
  have hn := hJ.now
  rw [getD_both' hun] at hn
  obtain ⟨e1, e2, w', e3, hK⟩ := h w hn
  rw [if_pos e1, e2, Sem.run_bind, e3]
  exact ⟨rfl, ⟨by rw [getD_set_at hun]; exact hK⟩⟩
theorem J1.start {n : Nat} {w : World} (h : K false w) : J1 i1 K (Array.replicate n false) w := ⟨by rw [getD_replicate_false']; exact h⟩
theorem J1.done {n : Nat} {w : World} (h : J1 i1 K (Array.replicate n true) w) (h1 : i1 < n) : K true w := by
  have := h.now
  simp [h1] at this
  exact this
end
end Go.Proofs.Ytdmkgomcomcfhaa
