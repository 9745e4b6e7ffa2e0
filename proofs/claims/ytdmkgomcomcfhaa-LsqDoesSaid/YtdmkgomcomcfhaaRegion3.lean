/- A region that draws its order, two of whose operations turn the state; some operations are known to come behind both. No program. -/
import Derived.Test.YtdmkgomcomcfhaaRegion2
namespace Go.Proofs.Ytdmkgomcomcfhaa
open Go.RowKit

section
variable {P : Program} {ops : Array Oper} {Q : Exit → Act → World → Prop} {K : Bool → Bool → World → Prop} {i i1 i2 : Nat} {S : List Nat} {o : Oper} {a : Act}

structure J3 (i1 i2 : Nat) (S : List Nat) (K : Bool → Bool → World → Prop) (c : Array Bool) (w : World) : Prop where
  now : K (c.getD i1 false) (c.getD i2 false) w
  late : ∀ j ∈ S, c.getD j false = true → c.getD i1 false = true ∧ c.getD i2 false = true
theorem JUpon.imp {N N' : World → Prop} {v : Value} {r : Result Next} (h : JUpon P N v r) (k : ∀ w, N w → N' w) : JUpon P N' v r := by
  match r, h with
  | .ok (.value u) w', h => exact ⟨h.1, k _ h.2⟩
  | .ok .skip w', h => exact ⟨h.1, k _ h.2⟩
  | .ok (.enter f args) w', h => exact Calls.mono h fun e w'' ⟨he, hN⟩ => ⟨he, k _ hN⟩
theorem jup_val {N : World → Prop} {v : Value} {w : World} {r : Result Next} (hr : r = .ok (.value v) w) (h : N w) : JUpon P N v r := by
  rw [hr]
  exact ⟨rfl, h⟩
theorem jup_call {N : World → Prop} {v : Value} {w : World} {r : Result Next} {f : FuncId} {args : Array Value} (hr : r = .ok (.enter f args) w) (h : Calls P f args w fun e w' => e = .returned v ∧ N w') : JUpon P N v r := by
  rw [hr]
  exact h
theorem jup_op {N : World → Prop} {m : Sem Value} {v : Value} {w : World} {r : Sem Next} (hr : r = (do let x ← m; pure (.value x))) (hm : m.run P w = .ok v w) (h : N w) : JUpon P N v (r.run P w) := by
  rw [hr, Sem.run_bind, hm]
  exact ⟨rfl, h⟩
theorem j3early (h1 : i ≠ i1) (h2 : i ≠ i2) (hS : i ∉ S) {v : Value} (h : ∀ a1 a2 w, K a1 a2 w → Region.wanted o (yielded ops a.tmps) = true ∧ JUpon P (K a1 a2) v ((execOp a.eval o).run P w)) : JStep P ops (J3 i1 i2 S K) i o a v := by
  refine ⟨fun listed w hJ hr => ?_⟩
  obtain ⟨e1, e2⟩ := h _ _ w hJ.now
  rw [if_pos e1]
  refine e2.imp fun w' hK => ⟨?_, fun j hj hl => ?_⟩
  · rw [getD_set_other h1, getD_set_other h2]; exact hK
  · rw [getD_set_other (by rintro rfl; exact hS hj)] at hl
    rw [getD_set_other h1, getD_set_other h2]
    exact hJ.late j hj hl
theorem j3one (h12 : i1 ≠ i2) (hS : i1 ∉ S) {v : Value} (h : ∀ a2 w, K false a2 w → Region.wanted o (yielded ops a.tmps) = true ∧ JUpon P (K true a2) v ((execOp a.eval o).run P w)) : JStep P ops (J3 i1 i2 S K) i1 o a v := by
  refine ⟨fun listed w hJ hr => ?_⟩
  obtain ⟨hun, _⟩ := mem_ready.1 hr
  have hn := hJ.now
  rw [getD_both' hun] at hn
  obtain ⟨e1, e2⟩ := h _ w hn
  rw [if_pos e1]
  refine e2.imp fun w' hK => ⟨?_, fun j hj hl => ?_⟩
  · rw [getD_set_at hun, getD_set_other h12]; exact hK
  · rw [getD_set_other (by rintro rfl; exact hS hj)] at hl
    rw [getD_set_at hun, getD_set_other h12]
    exact ⟨rfl, (hJ.late j hj hl).2⟩
theorem j3two (h12 : i2 ≠ i1) (hS : i2 ∉ S) {v : Value} (h : ∀ a1 w, K a1 false w → Region.wanted o (yielded ops a.tmps) = true ∧ JUpon P (K a1 true) v ((execOp a.eval o).run P w)) : JStep P ops (J3 i1 i2 S K) i2 o a v := by
  refine ⟨fun listed w hJ hr => ?_⟩
  obtain ⟨hun, _⟩ := mem_ready.1 hr
  have hn := hJ.now
  rw [getD_both' hun] at hn
  obtain ⟨e1, e2⟩ := h _ w hn
  rw [if_pos e1]
  refine e2.imp fun w' hK => ⟨?_, fun j hj hl => ?_⟩
  · rw [getD_set_at hun, getD_set_other h12]; exact hK
  · rw [getD_set_other (by rintro rfl; exact hS hj)] at hl
    rw [getD_set_at hun, getD_set_other h12]
    exact ⟨(hJ.late j hj hl).1, rfl⟩
/-- Behind both. -/
theorem j3late (ho : ops[i]? = some o) (h1 : i ≠ i1) (h2 : i ≠ i2) (hw : (waitsOn o i1 = true ∧ waitsOn o i2 = true) ∨ ∃ m, m ∈ S ∧ waitsOn o m = true) {v : Value} (h : ∀ w, K true true w → Region.wanted o (yielded ops a.tmps) = true ∧ JUpon P (K true true) v ((execOp a.eval o).run P w)) : JStep P ops (J3 i1 i2 S K) i o a v := by
  refine ⟨fun listed w hJ hr => ?_⟩
  obtain ⟨hun, o', ho', hall⟩ := mem_ready.1 hr
  have : o' = o := Option.some.inj (ho'.symm.trans ho)
  subst this
  have got : ∀ m, waitsOn o' m = true → listed.getD m false = true := fun m hm => by
    obtain ⟨e, he, hb, hon⟩ := waitsOn_spec hm
    have := hall e he hb
    rw [hon] at this
    exact this
  have hb : listed.getD i1 false = true ∧ listed.getD i2 false = true := by
    rcases hw with ⟨w1, w2⟩ | ⟨m, hm, w1⟩
    · exact ⟨got _ w1, got _ w2⟩
    · exact hJ.late m hm (got _ w1)
  have hn := hJ.now
  rw [hb.1, hb.2] at hn
  obtain ⟨e1, e2⟩ := h w hn
  rw [if_pos e1]
  refine e2.imp fun w' hK => ⟨?_, fun j hj hl => ?_⟩
  · rw [getD_set_other h1, getD_set_other h2, hb.1, hb.2]; exact hK
  · rw [getD_set_other h1, getD_set_other h2]; exact hb
theorem j3val (h1 : i ≠ i1) (h2 : i ≠ i2) (hS : i ∉ S) (c : Value) (h : ∀ a1 a2 w, K a1 a2 w → Region.wanted o (yielded ops a.tmps) = true ∧ (execOp a.eval o).run P w = .ok (.value c) w) : JStep P ops (J3 i1 i2 S K) i o a c :=
  j3early h1 h2 hS fun a1 a2 w hK => ⟨(h a1 a2 w hK).1, jup_val (h a1 a2 w hK).2 hK⟩
theorem j3op (h1 : i ≠ i1) (h2 : i ≠ i2) (hS : i ∉ S) (m : Sem Value) (c : Value) (h : ∀ a1 a2 w, K a1 a2 w → Region.wanted o (yielded ops a.tmps) = true ∧ execOp a.eval o = (do let r ← m; pure (.value r)) ∧ m.run P w = .ok c w) : JStep P ops (J3 i1 i2 S K) i o a c :=
  j3early h1 h2 hS fun a1 a2 w hK => ⟨(h a1 a2 w hK).1, jup_op (h a1 a2 w hK).2.1 (h a1 a2 w hK).2.2 hK⟩
theorem j3oneC (h12 : i1 ≠ i2) (hS : i1 ∉ S) (f : FuncId) (args : Array Value) (c : Value) (h : ∀ a2 w, K false a2 w → Region.wanted o (yielded ops a.tmps) = true ∧ (execOp a.eval o).run P w = .ok (.enter f args) w ∧ Calls P f args w fun e w' => e = .returned c ∧ K true a2 w') : JStep P ops (J3 i1 i2 S K) i1 o a c :=
  j3one h12 hS fun a2 w hK => ⟨(h a2 w hK).1, jup_call (h a2 w hK).2.1 (h a2 w hK).2.2⟩
theorem j3twoC (h12 : i2 ≠ i1) (hS : i2 ∉ S) (f : FuncId) (args : Array Value) (c : Value) (h : ∀ a1 w, K a1 false w → Region.wanted o (yielded ops a.tmps) = true ∧ (execOp a.eval o).run P w = .ok (.enter f args) w ∧ Calls P f args w fun e w' => e = .returned c ∧ K a1 true w') : JStep P ops (J3 i1 i2 S K) i2 o a c :=
  j3two h12 hS fun a1 w hK => ⟨(h a1 w hK).1, jup_call (h a1 w hK).2.1 (h a1 w hK).2.2⟩
theorem j3lateV (ho : ops[i]? = some o) (h1 : i ≠ i1) (h2 : i ≠ i2) (hw : (waitsOn o i1 = true ∧ waitsOn o i2 = true) ∨ ∃ m, m ∈ S ∧ waitsOn o m = true) (c : Value) (h : ∀ w, K true true w → Region.wanted o (yielded ops a.tmps) = true ∧ (execOp a.eval o).run P w = .ok (.value c) w) : JStep P ops (J3 i1 i2 S K) i o a c :=
  j3late ho h1 h2 hw fun w hK => ⟨(h w hK).1, jup_val (h w hK).2 hK⟩
theorem j3lateO (ho : ops[i]? = some o) (h1 : i ≠ i1) (h2 : i ≠ i2) (hw : (waitsOn o i1 = true ∧ waitsOn o i2 = true) ∨ ∃ m, m ∈ S ∧ waitsOn o m = true) (m : Sem Value) (c : Value) (h : ∀ w, K true true w → Region.wanted o (yielded ops a.tmps) = true ∧ execOp a.eval o = (do let r ← m; pure (.value r)) ∧ m.run P w = .ok c w) : JStep P ops (J3 i1 i2 S K) i o a c :=
  j3late ho h1 h2 hw fun w hK => ⟨(h w hK).1, jup_op (h w hK).2.1 (h w hK).2.2 hK⟩
theorem j3lateC (ho : ops[i]? = some o) (h1 : i ≠ i1) (h2 : i ≠ i2) (hw : (waitsOn o i1 = true ∧ waitsOn o i2 = true) ∨ ∃ m, m ∈ S ∧ waitsOn o m = true) (f : FuncId) (args : Array Value) (c : Value) (h : ∀ w, K true true w → Region.wanted o (yielded ops a.tmps) = true ∧ (execOp a.eval o).run P w = .ok (.enter f args) w ∧ Calls P f args w fun e w' => e = .returned c ∧ K true true w') : JStep P ops (J3 i1 i2 S K) i o a c :=
  j3late ho h1 h2 hw fun w hK => ⟨(h w hK).1, jup_call (h w hK).2.1 (h w hK).2.2⟩
theorem J3.start {n : Nat} {w : World} (h : K false false w) : J3 i1 i2 S K (Array.replicate n false) w :=
  ⟨by rw [getD_replicate_false', getD_replicate_false']; exact h, fun j _ hl => by rw [getD_replicate_false'] at hl; cases hl⟩
theorem J3.done {n : Nat} {w : World} (h : J3 i1 i2 S K (Array.replicate n true) w) (h1 : i1 < n) (h2 : i2 < n) : K true true w := by
  have := h.now
  simp [h1, h2] at this
  exact this
end
end Go.Proofs.Ytdmkgomcomcfhaa
