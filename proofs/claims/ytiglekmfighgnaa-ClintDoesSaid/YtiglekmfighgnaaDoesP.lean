/-
  PROVES Rows.ClintDoesSaid: for every input the law returns true and leaves its arguments alone; no conditions.
-/
import Derived.Test.YtiglekmfighgnaaLaw
import Derived.Test.YtiglekmfighgnaaW14
import Derived.Deep.Slices
import Derived.Lib.SmallJoins
namespace Go.Proofs.Ytiglekmfighgnaa.clintDoes
open Go.ChangeShapes Go.WideShapes Go.ChangeAt Go.RowKit

def ci (w : World) (b o : Nat) : Int := match w.cell? ⟨b, o, none⟩ with | some (.int _ n) => n | _ => 0
theorem ci_of {w : World} {b o : Nat} {k : IntKind} {n : Int} (h : w.cell? ⟨b, o, none⟩ = some (.int k n)) : w.cell? ⟨b, o, none⟩ = some (.int k (ci w b o)) := by
  unfold ci; rw [h]

theorem step_type : ∃ f0 f1 f2 f3, Try.prog.underlying 30 = some (.struct #[f0, f1, f2, f3]) ∧ f0.type = 3 ∧ f0.offset = 0 ∧ f1.type = 28 ∧ f1.offset = 1 ∧ f2.type = 3 ∧ f2.offset = 2 ∧ f3.type = 28 ∧ f3.offset = 3 :=
  ⟨_, _, _, _, Try.underlying30, rfl, rfl, rfl, rfl, rfl, rfl, rfl, rfl⟩
theorem c3 : Try.prog.cellsOf 3 = 1 := by kernel_rfl
theorem c28 : Try.prog.cellsOf 28 = 1 := by kernel_rfl
theorem c30 : Try.prog.cellsOf 30 = 4 := by kernel_rfl

section
variable {H : Type} {enc : TypeId × Value → H}
theorem open_step {w : World} {base : Nat} {spare : Nat → Bool} {held : Bool} {fuel : Nat} {cs : List Value} {x : DataW H × List MemPlace} (h : DataW.trod enc Try.prog w base spare held fuel 30 cs = some x) :
    ∃ a b c d : Int, cs = [.int .i64 a, .int .u64 b, .int .i64 c, .int .u64 d] ∧ (Lit.int .u64 d).wf = true := by
  obtain ⟨f0, f1, f2, f3, hu, t0, o0, t1, o1, t2, o2, t3, o3⟩ := step_type
  obtain ⟨xs, n, _, _, hlen, hxl, hf⟩ := DataW.trod_struct hu h
  rw [c30] at hlen
  match cs, hlen with
  | [v0, v1, v2, v3], _ =>
    have get : ∀ i, i < 4 → ∃ y, xs[i]? = some y := fun i hi => ⟨_, List.getElem?_eq_getElem (by simp at hxl; omega)⟩
    obtain ⟨y0, e0⟩ := get 0 (by omega)
    obtain ⟨y1, e1⟩ := get 1 (by omega)
    obtain ⟨y2, e2⟩ := get 2 (by omega)
    obtain ⟨y3, e3⟩ := get 3 (by omega)
    have g0 := hf 0 f0 rfl
    have g1 := hf 1 f1 rfl
    have g2 := hf 2 f2 rfl
    have g3 := hf 3 f3 rfl
    rw [t0, o0, c3, e0] at g0
    rw [t1, o1, c28, e1] at g1
    rw [t2, o2, c3, e2] at g2
    rw [t3, o3, c28, e3] at g3
    obtain ⟨a, ha, _, _⟩ := DataW.trod_int Try.underlying3 g0
    obtain ⟨b, hb, _, _⟩ := DataW.trod_int Try.underlying28 g1
    obtain ⟨c, hc, _, _⟩ := DataW.trod_int Try.underlying3 g2
    obtain ⟨d, hd, _, wd⟩ := DataW.trod_int Try.underlying28 g3
    simp at ha hb hc hd
    exact ⟨a, b, c, d, by rw [ha, hb, hc, hd], wd⟩

theorem open_steps {w : World} {base : Nat} {spare : Nat → Bool} {held : Bool} {r : Reach} {b0 : Nat} {v : Value} {d : DataW H} {p : List MemPlace} (hv : Value.okWide Try.prog w r b0 22 v)
    (h : DataW.Trod enc Try.prog w base spare held 22 v d p) : ∃ n X, SL w v n X := by
  obtain ⟨A, len, cap, rfl⟩ := okWide_slice Try.underlying22 hv
  obtain ⟨fuel, hf⟩ := h
  rcases Go.Deep.open_slice Try.underlying22 hf with ⟨hcs, _⟩ | ⟨a, len', cap', m, n, D, Pl, hcs, _, hl, hm, hmm, _, hi⟩
  · simp [Value.cells] at hcs
    obtain ⟨rfl, rfl, rfl⟩ := hcs
    exact ⟨0, fun _ => (0, 0, 0, 0), .inl ⟨rfl, _, _, rfl⟩⟩
  · simp [Value.cells] at hcs
    obtain ⟨rfl, rfl, rfl⟩ := hcs
    have hlm : len ≤ m := by rw [hmm]; split <;> omega
    unfold maxLen at hm
    by_cases h0 : len = 0
    · exact ⟨0, fun _ => (0, 0, 0, 0), .inl ⟨rfl, _, _, by rw [h0]⟩⟩
    obtain ⟨ab, ao, sp⟩ := a
    have hsp : sp = none := by
      obtain ⟨cs', hc, ht⟩ := hi 0 (by omega)
      rw [c30] at hc
      obtain ⟨a, b, c, d, rfl, wd⟩ := open_step ht
      obtain ⟨_, _, hat⟩ := World.cells?_some hc
      have a0 := hat 0 (by omega)
      cases sp with
      | none => rfl
      | some x =>
        simp [Addr.add, World.cell?] at a0
        split at a0 <;> simp at a0
    subst hsp
    have add2 : ∀ i j, (Addr.add (Addr.add ⟨ab, ao, none⟩ i) j) = ⟨ab, ao + i + j, none⟩ := by
      intro i j
      unfold Addr.add
      by_cases h1 : i = 0 <;> by_cases h2 : j = 0 <;> simp [h1, h2]
    have key : ∀ i, i < len → ∃ a b c d : Int, w.cell? ⟨ab, ao + i * 4, none⟩ = some (.int .i64 a) ∧ w.cell? ⟨ab, ao + i * 4 + 1, none⟩ = some (.int .u64 b) ∧
        w.cell? ⟨ab, ao + i * 4 + 2, none⟩ = some (.int .i64 c) ∧ w.cell? ⟨ab, ao + i * 4 + 3, none⟩ = some (.int .u64 d) ∧ (Lit.int .u64 d).wf = true := by
      intro i hil
      obtain ⟨cs', hc, ht⟩ := hi i (by omega)
      rw [c30] at hc
      obtain ⟨a, b, c, d, rfl, wd⟩ := open_step ht
      obtain ⟨_, _, hat⟩ := World.cells?_some hc
      have a0 := hat 0 (by omega)
      have a1 := hat 1 (by omega)
      have a2 := hat 2 (by omega)
      have a3 := hat 3 (by omega)
      rw [add2] at a0 a1 a2 a3
      exact ⟨a, b, c, d, a0, a1, a2, a3, wd⟩
    refine ⟨len, fun i => (ci w ab (ao + i * 4), ci w ab (ao + i * 4 + 1), ci w ab (ao + i * 4 + 2), ci w ab (ao + i * 4 + 3)), .inr ⟨ab, ao, cap, rfl, fun _ => ?_, by omega, fun i hil => ?_⟩⟩
    · obtain ⟨a, b, c, d, k0, _⟩ := key 0 (by omega)
      unfold World.cell? at k0
      rcases Nat.lt_or_ge ab w.heap.size with h | h
      · exact h
      · rw [Array.getElem?_eq_none h] at k0; cases k0
    · obtain ⟨a, b, c, d, k0, k1, k2, k3, wd⟩ := key i hil
      have e3 : ci w ab (ao + i * 4 + 3) = d := by unfold ci; rw [k3]
      exact ⟨ci_of k0, ci_of k1, ci_of k2, ci_of k3, by simp only [e3]; exact (b64 wd).1, by simp only [e3]; exact (b64 wd).2⟩

set_option maxRecDepth 100000 in
theorem lifted (os : Os) (started : os.Started) :
    ReturnsInHanded {} Try.checked os 3 .any (Rows.clintDoesSpec.pre6 enc Try.prog Try.f3 Rows.clintDoesRow.domain false) (Rows.clintDoesSpec.post enc Try.prog Try.f3 false true false false) := by
  refine returnsInHanded_of_change (C := Try.checked) law_own started (by kernel_rfl) Try.func3
    (ChangeSpec.witness6 (enc := enc) (C := Try.checked) false ⟨#[], #[.slice none 0 0], []⟩ 8 (by kernel_rfl) (by kernel_rfl) (by kernel_rfl) (by kernel_rfl)) ?_
  intro W base args ds gs before hval0 hW hcnd _
  have hval : ∀ (j : Nat) t v, Try.f3.params[j]? = some t → args[j]? = some v → Value.okWide Try.prog W .any base t v := hval0
  have hW' := hW
  obtain ⟨p, q, hA0, hV, rfl, hfz, hnd⟩ := hW
  have hA : DataW.TrodAll enc Try.prog W 0 (fun _ => true) true Try.f3.params.toList args.toList ds p := hA0
  rw [Try.params3] at hA hval
  obtain ⟨v0, vs0, d0, ds0, p0, q0, hargs, rfl, rfl, h0, r0⟩ := trodAll_cons hA
  obtain ⟨rfl, rfl, rfl⟩ := trodAll_nil r0
  obtain rfl : args = #[v0] := by cases args; simp_all
  obtain ⟨rfl, rfl⟩ := trodVars_none hV
  obtain ⟨n, X, hS⟩ := open_steps (hval 0 22 v0 rfl rfl) h0
  clear hA0 hval0
  simp only [List.append_nil] at hW'
  refine (does_walk v0 n X W hS).mono fun e W' ⟨he, hg⟩ => ?_
  subst he
  exact ⟨_, rfl, law_post (T := 4) rfl (by kernel_rfl) hW' rfl (by kernel_rfl) Try.underlying4 hg⟩
end

theorem over : Rows.clintDoesRow.holds Try.pinned (OpenSpec.ofChange Rows.clintDoesSpec) :=
  OpenClaim.holds_of_wide 3 Try.f3 rfl rfl rfl rfl rfl rfl rfl ⟨rfl, rfl, rfl, rfl, rfl⟩ rfl rfl rfl rfl rfl (by kernel_rfl) Try.func3 (by kernel_rfl)
    (of_decide_eq_true (by kernel_rfl)) (by unfold Func.isWrapper; first | (rw [if_pos (by decide +kernel)]; kernel_rfl) | (rw [if_neg (by decide +kernel)]; exact ⟨rfl, rfl⟩))
    (fun os started H enc _ => lifted os started)

theorem proved : Rows.ClintDoesSaid := over
end Go.Proofs.Ytiglekmfighgnaa.clintDoes
