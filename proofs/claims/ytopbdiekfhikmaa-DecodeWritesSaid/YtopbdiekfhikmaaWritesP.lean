/-
  PROVES Rows.DecodeWritesSaid: for every input the law returns true and leaves its arguments alone; no conditions.
-/
import Derived.Test.YtopbdiekfhikmaaOpen
import Derived.Test.YtopbdiekfhikmaaQ4
namespace Go.Proofs.Ytopbdiekfhikmaa.decodeWrites
open Go.ChangeShapes Go.WideShapes Go.ChangeAt Go.RowKit

set_option maxRecDepth 100000 in
theorem walked (W : World) (args : Array Value) (hl : args.toList.length = Try.f4.params.toList.length) (hA : ∀ (j : Nat) t v, Try.f4.params[j]? = some t → args[j]? = some v → Arg Try.prog W t v) :
    Calls Try.prog 4 args W fun e w' => e = .returned (.bool true) ∧ Below W.heap.size W w' := by
  rw [Try.params4] at hl hA
  obtain ⟨l⟩ := args
  obtain ⟨v1, rfl⟩ : ∃ v1 : Value, l = [v1] := by
    match l, hl with
    | [v1], _ => exact ⟨_, rfl⟩
  have h1 : Arg Try.prog W 25 v1 := hA 0 25 v1 rfl rfl
  obtain ⟨cs1, rfl⟩ := h1.one.2.2 _ Try.underlying25
  have f1 : Fits [.some .i64, .some .i64, .some .i64, .some .i64, .some .i64, .some .i64, .some .i64, .some .i64, .some .i64, .none, .none, .none] cs1.toList := h1.flat _ (by kernel_rfl)
  obtain ⟨x, hx, rfl⟩ := fits_ins_of f1
  exact (writes_walk x hx W).mono fun _ _ ⟨h1, hq⟩ => ⟨h1, hq.os, hq.tape, hq.output, hq.size, fun k hk => hq.block k hk (by simp)⟩
set_option maxRecDepth 100000 in
theorem lifted {H : Type} {enc : TypeId × Value → H} (os : Os) (started : os.Started) :
    ReturnsInHanded {} Try.checked os 4 .any (Rows.decodeWritesSpec.pre6 enc Try.prog Try.f4 Rows.decodeWritesRow.domain false) (Rows.decodeWritesSpec.post enc Try.prog Try.f4 false true false false) :=
  lift started (by kernel_rfl) Try.func4 (ChangeSpec.witness6 (enc := enc) (C := Try.checked) false ⟨#[], #[.agg #[.int .i64 0, .int .i64 0, .int .i64 0, .int .i64 0, .int .i64 0, .int .i64 0, .int .i64 0, .int .i64 0, .int .i64 0, .bool false, .bool false, .bool false]], []⟩ 8 (by kernel_rfl) (by kernel_rfl) (by kernel_rfl) (by kernel_rfl))
    rfl (by kernel_rfl) (fun ds h => match ds, h with | [_], _ => rfl) rfl Try.underlying4 walked
theorem over : Rows.decodeWritesRow.holds Try.pinned (OpenSpec.ofChange Rows.decodeWritesSpec) :=
  OpenClaim.holds_of_wide 4 Try.f4 rfl rfl rfl rfl rfl rfl rfl ⟨rfl, rfl, rfl, rfl, rfl⟩ rfl rfl rfl rfl rfl (by kernel_rfl) Try.func4 (by kernel_rfl)
    (of_decide_eq_true (by kernel_rfl)) (by unfold Func.isWrapper; first | (rw [if_pos (by decide +kernel)]; kernel_rfl) | (rw [if_neg (by decide +kernel)]; exact ⟨rfl, rfl⟩))
    (fun os started _ _ _ => lifted os started)
theorem proved : Rows.DecodeWritesSaid := over
end Go.Proofs.Ytopbdiekfhikmaa.decodeWrites
