/-
  PROVES Rows.LsqDoesSaid: for every input the law returns true and leaves its arguments alone; no conditions.
-/
import Derived.Test.YtdmkgomcomcfhaaOpen
import Derived.Test.YtdmkgomcomcfhaaR15
namespace Go.Proofs.Ytdmkgomcomcfhaa.lsqDoes
open Go.ChangeShapes Go.WideShapes Go.ChangeAt Go.RowKit

set_option maxRecDepth 100000 in
theorem walked (W : World) (args : Array Value) (hl : args.toList.length = Try.f3.params.toList.length) (hA : ∀ (j : Nat) t v, Try.f3.params[j]? = some t → args[j]? = some v → Arg Try.prog W t v) :
    Calls Try.prog 3 args W fun e w' => e = .returned (.bool true) ∧ Below W.heap.size W w' := by
  rw [Try.params3] at hl hA
  obtain ⟨l⟩ := args
  obtain ⟨v0, rfl⟩ : ∃ v0 : Value, l = [v0] := by
    match l, hl with
    | [v0], _ => exact ⟨_, rfl⟩
  have h0 : Arg Try.prog W 22 v0 := hA 0 22 v0 rfl rfl
  obtain ⟨A0, l0, cap0, rfl, hc0, hl0, s0⟩ := h0.slice 30 [.some .i64, .some .i64, .some .u64, .some .i64, .some .u64] Try.underlying22 (by kernel_rfl) (by kernel_rfl) (by decide)
  rw [show Try.prog.bytesOf 30 = 40 from by kernel_rfl] at hl0
  unfold reachBytes at hl0
  exact does_walk A0 l0 cap0 W s0 (by omega)

set_option maxRecDepth 100000 in
theorem lifted {H : Type} {enc : TypeId × Value → H} (os : Os) (started : os.Started) :
    ReturnsInHanded {} Try.checked os 3 .any (Rows.lsqDoesSpec.pre6 enc Try.prog Try.f3 Rows.lsqDoesRow.domain false) (Rows.lsqDoesSpec.post enc Try.prog Try.f3 false true false false) :=
  lift started (by kernel_rfl) Try.func3 (ChangeSpec.witness6 (enc := enc) (C := Try.checked) false ⟨#[], #[.slice none 0 0], []⟩ 8 (by kernel_rfl) (by kernel_rfl) (by kernel_rfl) (by kernel_rfl))
    rfl (by kernel_rfl) (fun ds h => match ds, h with | [_], _ => rfl) rfl Try.underlying4 walked

theorem over : Rows.lsqDoesRow.holds Try.pinned (OpenSpec.ofChange Rows.lsqDoesSpec) :=
  OpenClaim.holds_of_wide 3 Try.f3 rfl rfl rfl rfl rfl rfl rfl ⟨rfl, rfl, rfl, rfl, rfl⟩ rfl rfl rfl rfl rfl (by kernel_rfl) Try.func3 (by kernel_rfl)
    (of_decide_eq_true (by kernel_rfl)) (by unfold Func.isWrapper; first | (rw [if_pos (by decide +kernel)]; kernel_rfl) | (rw [if_neg (by decide +kernel)]; exact ⟨rfl, rfl⟩))
    (fun os started _ _ _ => lifted os started)

theorem proved : Rows.LsqDoesSaid := over
end Go.Proofs.Ytdmkgomcomcfhaa.lsqDoes
