/-
  PROVES Rows.LsqFirstSaid: for every input the law returns true and leaves its arguments alone; no conditions.
-/
import Derived.Test.YtdmkgomcomcfhaaOpen
import Derived.Test.YtdmkgomcomcfhaaQ21
namespace Go.Proofs.Ytdmkgomcomcfhaa.lsqFirst
open Go.ChangeShapes Go.WideShapes Go.ChangeAt Go.RowKit

set_option maxRecDepth 100000 in
theorem walked (W : World) (args : Array Value) (hl : args.toList.length = Try.f5.params.toList.length) (hA : ∀ (j : Nat) t v, Try.f5.params[j]? = some t → args[j]? = some v → Arg Try.prog W t v) :
    Calls Try.prog 5 args W fun e w' => e = .returned (.bool true) ∧ Below W.heap.size W w' := by
  rw [Try.params5] at hl hA
  obtain ⟨l⟩ := args
  obtain ⟨v0, rfl⟩ : ∃ v0 : Value, l = [v0] := by
    match l, hl with
    | [v0], _ => exact ⟨_, rfl⟩
  have h0 : Arg Try.prog W 50 v0 := hA 0 50 v0 rfl rfl
  obtain ⟨A0, l0, cap0, rfl, hc0, hl0, s0⟩ := h0.slice 54 [.none, .some .i64, .some .i64, .some .u64, .some .u64] Try.underlying50 (by kernel_rfl) (by kernel_rfl) (by decide)
  rw [show Try.prog.bytesOf 54 = 40 from by kernel_rfl] at hl0
  unfold reachBytes at hl0
  exact first_walk A0 l0 cap0 W s0 (by omega)

set_option maxRecDepth 100000 in
theorem lifted {H : Type} {enc : TypeId × Value → H} (os : Os) (started : os.Started) :
    ReturnsInHanded {} Try.checked os 5 .any (Rows.lsqFirstSpec.pre6 enc Try.prog Try.f5 Rows.lsqFirstRow.domain false) (Rows.lsqFirstSpec.post enc Try.prog Try.f5 false true false false) :=
  lift started (by kernel_rfl) Try.func5 (ChangeSpec.witness6 (enc := enc) (C := Try.checked) false ⟨#[], #[.slice none 0 0], []⟩ 8 (by kernel_rfl) (by kernel_rfl) (by kernel_rfl) (by kernel_rfl))
    rfl (by kernel_rfl) (fun ds h => match ds, h with | [_], _ => rfl) rfl Try.underlying4 walked

theorem over : Rows.lsqFirstRow.holds Try.pinned (OpenSpec.ofChange Rows.lsqFirstSpec) :=
  OpenClaim.holds_of_wide 5 Try.f5 rfl rfl rfl rfl rfl rfl rfl ⟨rfl, rfl, rfl, rfl, rfl⟩ rfl rfl rfl rfl rfl (by kernel_rfl) Try.func5 (by kernel_rfl)
    (of_decide_eq_true (by kernel_rfl)) (by unfold Func.isWrapper; first | (rw [if_pos (by decide +kernel)]; kernel_rfl) | (rw [if_neg (by decide +kernel)]; exact ⟨rfl, rfl⟩))
    (fun os started _ _ _ => lifted os started)

theorem proved : Rows.LsqFirstSaid := over
end Go.Proofs.Ytdmkgomcomcfhaa.lsqFirst
