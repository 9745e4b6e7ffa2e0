/-
  PROVES Rows.GuessSteadySaid: for every input the law returns true and leaves its arguments alone; no conditions.
-/
import Derived.Test.YtabkkeniaepibaaOpen
import Derived.Test.YtabkkeniaepibaaG10
namespace Go.Proofs.Ytabkkeniaepibaa.guessSteady
open Go.ChangeShapes Go.WideShapes Go.ChangeAt Go.RowKit

set_option maxRecDepth 100000 in
theorem walked (W : World) (args : Array Value) (hl : args.toList.length = Try.f4.params.toList.length) (hA : ∀ (j : Nat) t v, Try.f4.params[j]? = some t → args[j]? = some v → Arg Try.prog W t v) :
    Calls Try.prog 4 args W fun e w' => e = .returned (.bool true) ∧ Below W.heap.size W w' := by
  rw [Try.params4] at hl hA
  obtain ⟨l⟩ := args
  obtain ⟨v0, v1, v2, v3, v4, v5, rfl⟩ : ∃ v0 v1 v2 v3 v4 v5 : Value, l = [v0, v1, v2, v3, v4, v5] := by
    match l, hl with
    | [v0, v1, v2, v3, v4, v5], _ => exact ⟨_, _, _, _, _, _, rfl⟩
  have h0 : Arg Try.prog W 22 v0 := hA 0 22 v0 rfl rfl
  obtain ⟨n0, rfl⟩ := h0.one.2.1 _ Try.underlying22
  have wf0 : (Lit.int .u64 n0).wf = true := by obtain ⟨⟨m, e, hm⟩, _⟩ := h0.flat [.some .u64] (by kernel_rfl); injection e with _ e; rw [e]; exact hm
  have h1 : Arg Try.prog W 22 v1 := hA 1 22 v1 rfl rfl
  obtain ⟨n1, rfl⟩ := h1.one.2.1 _ Try.underlying22
  have wf1 : (Lit.int .u64 n1).wf = true := by obtain ⟨⟨m, e, hm⟩, _⟩ := h1.flat [.some .u64] (by kernel_rfl); injection e with _ e; rw [e]; exact hm
  have h2 : Arg Try.prog W 22 v2 := hA 2 22 v2 rfl rfl
  obtain ⟨n2, rfl⟩ := h2.one.2.1 _ Try.underlying22
  have wf2 : (Lit.int .u64 n2).wf = true := by obtain ⟨⟨m, e, hm⟩, _⟩ := h2.flat [.some .u64] (by kernel_rfl); injection e with _ e; rw [e]; exact hm
  have h3 : Arg Try.prog W 3 v3 := hA 3 3 v3 rfl rfl
  obtain ⟨n3, rfl⟩ := h3.one.2.1 _ Try.underlying3
  have wf3 : (Lit.int .i64 n3).wf = true := by obtain ⟨⟨m, e, hm⟩, _⟩ := h3.flat [.some .i64] (by kernel_rfl); injection e with _ e; rw [e]; exact hm
  have h4 : Arg Try.prog W 4 v4 := hA 4 4 v4 rfl rfl
  obtain ⟨b4, rfl⟩ := h4.one.1 Try.underlying4
  have h5 : Arg Try.prog W 3 v5 := hA 5 3 v5 rfl rfl
  obtain ⟨n5, rfl⟩ := h5.one.2.1 _ Try.underlying3
  have wf5 : (Lit.int .i64 n5).wf = true := by obtain ⟨⟨m, e, hm⟩, _⟩ := h5.flat [.some .i64] (by kernel_rfl); injection e with _ e; rw [e]; exact hm
  obtain ⟨e0, e1⟩ := b64' wf0
  obtain ⟨e2, e3⟩ := b64' wf1
  obtain ⟨e4, e5⟩ := b64' wf2
  obtain ⟨e6, e7⟩ := i64' wf5
  exact steady_walk n0 e0 e1 n1 e2 e3 n2 e4 e5 n3 b4 n5 e6 e7 W

set_option maxRecDepth 100000 in
theorem lifted {H : Type} {enc : TypeId × Value → H} (os : Os) (started : os.Started) :
    ReturnsInHanded {} Try.checked os 4 .any (Rows.guessSteadySpec.pre6 enc Try.prog Try.f4 Rows.guessSteadyRow.domain false) (Rows.guessSteadySpec.post enc Try.prog Try.f4 false true false false) :=
  lift started (by kernel_rfl) Try.func4 (ChangeSpec.witness6 (enc := enc) (C := Try.checked) false ⟨#[], #[.int .u64 0, .int .u64 0, .int .u64 0, .int .i64 0, .bool false, .int .i64 0], []⟩ 8 (by kernel_rfl) (by kernel_rfl) (by kernel_rfl) (by kernel_rfl))
    rfl (by kernel_rfl) (fun ds h => match ds, h with | [_, _, _, _, _, _], _ => rfl) rfl Try.underlying4 walked

theorem over : Rows.guessSteadyRow.holds Try.pinned (OpenSpec.ofChange Rows.guessSteadySpec) :=
  OpenClaim.holds_of_wide 4 Try.f4 rfl rfl rfl rfl rfl rfl rfl ⟨rfl, rfl, rfl, rfl, rfl⟩ rfl rfl rfl rfl rfl (by kernel_rfl) Try.func4 (by kernel_rfl)
    (of_decide_eq_true (by kernel_rfl)) (by unfold Func.isWrapper; first | (rw [if_pos (by decide +kernel)]; kernel_rfl) | (rw [if_neg (by decide +kernel)]; exact ⟨rfl, rfl⟩))
    (fun os started _ _ _ => lifted os started)

theorem proved : Rows.GuessSteadySaid := over
end Go.Proofs.Ytabkkeniaepibaa.guessSteady
