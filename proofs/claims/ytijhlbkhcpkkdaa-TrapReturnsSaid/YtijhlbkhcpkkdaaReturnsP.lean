/-
  PROVES Rows.TrapReturnsSaid: for every input the law returns true and leaves its arguments alone; no conditions.
-/
import Derived.Test.YtijhlbkhcpkkdaaOpen
import Derived.Test.YtijhlbkhcpkkdaaP15
namespace Go.Proofs.Ytijhlbkhcpkkdaa.trapReturns
open Go.ChangeShapes Go.WideShapes Go.ChangeAt Go.RowKit

set_option maxRecDepth 100000 in
theorem walked (W : World) (args : Array Value) (hl : args.toList.length = Try.f4.params.toList.length) (hA : ∀ (j : Nat) t v, Try.f4.params[j]? = some t → args[j]? = some v → Arg Try.prog W t v) :
    Calls Try.prog 4 args W fun e w' => e = .returned (.bool true) ∧ Below W.heap.size W w' := by
  rw [Try.params4] at hl hA
  obtain ⟨l⟩ := args
  obtain ⟨v0, v1, rfl⟩ : ∃ v0 v1 : Value, l = [v0, v1] := by
    match l, hl with
    | [v0, v1], _ => exact ⟨_, _, rfl⟩
  have h0 : Arg Try.prog W 26 v0 := hA 0 26 v0 rfl rfl
  obtain ⟨cs0, rfl⟩ := h0.one.2.2 _ Try.underlying26
  have f0 : Fits [.some .u64, .some .u64, .some .u64, .some .u64, .some .u64, .some .u64, .some .u64, .some .u64, .some .u64, .some .u64, .some .u64, .some .u64, .some .u64, .some .u64, .some .u64, .some .u64, .some .u64, .some .u64, .some .u64, .some .u64, .some .u64, .some .u64, .some .u8, .some .u8, .some .u8, .some .u8, .some .u8, .some .u8, .some .u8, .some .u8, .some .u64, .some .u64, .some .u64, .some .u64, .some .u64, .some .u64, .some .u64, .some .u64] cs0.toList := h0.flat _ (by kernel_rfl)
  have h1 : Arg Try.prog W 3 v1 := hA 1 3 v1 rfl rfl
  obtain ⟨n1, rfl⟩ := h1.one.2.1 _ Try.underlying3
  have wf1 : (Lit.int .i64 n1).wf = true := by obtain ⟨⟨m, e, hm⟩, _⟩ := h1.flat [.some .i64] (by kernel_rfl); injection e with _ e; rw [e]; exact hm
  obtain ⟨c, hI, rfl⟩ := fits_gl (show Fits ks38 cs0.toList from f0)
  exact returns_walk c hI n1 W

set_option maxRecDepth 100000 in
theorem lifted {H : Type} {enc : TypeId × Value → H} (os : Os) (started : os.Started) :
    ReturnsInHanded {} Try.checked os 4 .any (Rows.trapReturnsSpec.pre6 enc Try.prog Try.f4 Rows.trapReturnsRow.domain false) (Rows.trapReturnsSpec.post enc Try.prog Try.f4 false true false false) :=
  lift started (by kernel_rfl) Try.func4 (ChangeSpec.witness6 (enc := enc) (C := Try.checked) false ⟨#[], #[.agg #[.int .u64 0, .int .u64 0, .int .u64 0, .int .u64 0, .int .u64 0, .int .u64 0, .int .u64 0, .int .u64 0, .int .u64 0, .int .u64 0, .int .u64 0, .int .u64 0, .int .u64 0, .int .u64 0, .int .u64 0, .int .u64 0, .int .u64 0, .int .u64 0, .int .u64 0, .int .u64 0, .int .u64 0, .int .u64 0, .int .u8 0, .int .u8 0, .int .u8 0, .int .u8 0, .int .u8 0, .int .u8 0, .int .u8 0, .int .u8 0, .int .u64 0, .int .u64 0, .int .u64 0, .int .u64 0, .int .u64 0, .int .u64 0, .int .u64 0, .int .u64 0], .int .i64 0], []⟩ 8 (by kernel_rfl) (by kernel_rfl) (by kernel_rfl) (by kernel_rfl))
    rfl (by kernel_rfl) (fun ds h => match ds, h with | [_, _], _ => rfl) rfl Try.underlying4 walked

theorem over : Rows.trapReturnsRow.holds Try.pinned (OpenSpec.ofChange Rows.trapReturnsSpec) :=
  OpenClaim.holds_of_wide 4 Try.f4 rfl rfl rfl rfl rfl rfl rfl ⟨rfl, rfl, rfl, rfl, rfl⟩ rfl rfl rfl rfl rfl (by kernel_rfl) Try.func4 (by kernel_rfl)
    (of_decide_eq_true (by kernel_rfl)) (by unfold Func.isWrapper; first | (rw [if_pos (by decide +kernel)]; kernel_rfl) | (rw [if_neg (by decide +kernel)]; exact ⟨rfl, rfl⟩))
    (fun os started _ _ _ => lifted os started)

theorem proved : Rows.TrapReturnsSaid := over
end Go.Proofs.Ytijhlbkhcpkkdaa.trapReturns
