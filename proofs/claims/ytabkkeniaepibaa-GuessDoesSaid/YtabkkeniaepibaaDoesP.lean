/-
  PROVES Rows.GuessDoesSaid: for every input the law returns true and leaves its arguments alone; no conditions.
-/
import Derived.Test.YtabkkeniaepibaaOpen
import Derived.Test.YtabkkeniaepibaaG21
namespace Go.Proofs.Ytabkkeniaepibaa.guessDoes
open Go.ChangeShapes Go.WideShapes Go.ChangeAt Go.RowKit

set_option maxRecDepth 100000 in
theorem walked (W : World) (args : Array Value) (hl : args.toList.length = Try.f3.params.toList.length) (hA : ∀ (j : Nat) t v, Try.f3.params[j]? = some t → args[j]? = some v → Arg Try.prog W t v) :
    Calls Try.prog 3 args W fun e w' => e = .returned (.bool true) ∧ Below W.heap.size W w' := by
  rw [Try.params3] at hl hA
  obtain ⟨l⟩ := args
  obtain ⟨v0, v1, rfl⟩ : ∃ v0 v1 : Value, l = [v0, v1] := by
    match l, hl with
    | [v0, v1], _ => exact ⟨_, _, rfl⟩
  have h0 : Arg Try.prog W 22 v0 := hA 0 22 v0 rfl rfl
  obtain ⟨n0, rfl⟩ := h0.one.2.1 _ Try.underlying22
  have wf0 : (Lit.int .u64 n0).wf = true := by obtain ⟨⟨m, e, hm⟩, _⟩ := h0.flat [.some .u64] (by kernel_rfl); injection e with _ e; rw [e]; exact hm
  have h1 : Arg Try.prog W 23 v1 := hA 1 23 v1 rfl rfl
  obtain ⟨A1, l1, cap1, rfl, hc1, hl1, s1⟩ := h1.slice 34 [.some .i64, .some .u64, .some .u64, .some .i64, .none] Try.underlying23 (by kernel_rfl) (by kernel_rfl) (by decide)
  rw [show Try.prog.bytesOf 34 = 40 from by kernel_rfl] at hl1
  unfold reachBytes at hl1
  obtain ⟨e0, e1⟩ := b64' wf0
  exact does_walk n0 e0 e1 A1 l1 cap1 W s1 (by omega)

set_option maxRecDepth 100000 in
theorem lifted {H : Type} {enc : TypeId × Value → H} (os : Os) (started : os.Started) :
    ReturnsInHanded {} Try.checked os 3 .any (Rows.guessDoesSpec.pre6 enc Try.prog Try.f3 Rows.guessDoesRow.domain false) (Rows.guessDoesSpec.post enc Try.prog Try.f3 false true false false) :=
  lift started (by kernel_rfl) Try.func3 (ChangeSpec.witness6 (enc := enc) (C := Try.checked) false ⟨#[], #[.int .u64 0, .slice none 0 0], []⟩ 8 (by kernel_rfl) (by kernel_rfl) (by kernel_rfl) (by kernel_rfl))
    rfl (by kernel_rfl) (fun ds h => match ds, h with | [_, _], _ => rfl) rfl Try.underlying4 walked

theorem over : Rows.guessDoesRow.holds Try.pinned (OpenSpec.ofChange Rows.guessDoesSpec) :=
  OpenClaim.holds_of_wide 3 Try.f3 rfl rfl rfl rfl rfl rfl rfl ⟨rfl, rfl, rfl, rfl, rfl⟩ rfl rfl rfl rfl rfl (by kernel_rfl) Try.func3 (by kernel_rfl)
    (of_decide_eq_true (by kernel_rfl)) (by unfold Func.isWrapper; first | (rw [if_pos (by decide +kernel)]; kernel_rfl) | (rw [if_neg (by decide +kernel)]; exact ⟨rfl, rfl⟩))
    (fun os started _ _ _ => lifted os started)

theorem proved : Rows.GuessDoesSaid := over
end Go.Proofs.Ytabkkeniaepibaa.guessDoes
