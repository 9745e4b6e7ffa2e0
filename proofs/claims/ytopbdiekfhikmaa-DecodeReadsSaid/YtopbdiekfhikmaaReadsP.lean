/-
  PROVES Rows.DecodeReadsSaid: for every input the law returns true and leaves its arguments alone; no conditions.
-/
import Derived.Test.YtopbdiekfhikmaaOpen
import Derived.Test.YtopbdiekfhikmaaRW
namespace Go.Proofs.Ytopbdiekfhikmaa.decodeReads
open Go.ChangeShapes Go.WideShapes Go.ChangeAt Go.RowKit

set_option maxRecDepth 100000 in
theorem walked (W : World) (args : Array Value) (hl : args.toList.length = Try.f3.params.toList.length) (hA : ∀ (j : Nat) t v, Try.f3.params[j]? = some t → args[j]? = some v → Arg Try.prog W t v) :
    Calls Try.prog 3 args W fun e w' => e = .returned (.bool true) ∧ Below W.heap.size W w' := by
  rw [Try.params3] at hl hA
  obtain ⟨l⟩ := args
  obtain ⟨v0, rfl⟩ : ∃ v0 : Value, l = [v0] := by
    match l, hl with
    | [v0], _ => exact ⟨_, rfl⟩
  have h0 : Arg Try.prog W 22 v0 := hA 0 22 v0 rfl rfl
  obtain ⟨n0, rfl⟩ := h0.one.2.1 _ Try.underlying22
  have wf0 : (Lit.int .u32 n0).wf = true := by obtain ⟨⟨m, e, hm⟩, _⟩ := h0.flat [.some .u32] (by kernel_rfl); injection e with _ e; rw [e]; exact hm
  have hn := wf0
  simp [Lit.wf, IntKind.min, IntKind.max, IntKind.signed, IntKind.bits] at hn
  obtain ⟨b, rfl⟩ : ∃ b : Nat, n0 = (b : Int) := ⟨n0.toNat, by omega⟩
  exact (reads_walk b (by omega) W).mono fun _ _ ⟨h1, hq⟩ => ⟨h1, hq.os, hq.tape, hq.output, hq.size, fun k hk => hq.block k hk (by simp)⟩

set_option maxRecDepth 100000 in
theorem lifted {H : Type} {enc : TypeId × Value → H} (os : Os) (started : os.Started) :
    ReturnsInHanded {} Try.checked os 3 .any (Rows.decodeReadsSpec.pre6 enc Try.prog Try.f3 Rows.decodeReadsRow.domain false) (Rows.decodeReadsSpec.post enc Try.prog Try.f3 false true false false) :=
  lift started (by kernel_rfl) Try.func3 (ChangeSpec.witness6 (enc := enc) (C := Try.checked) false ⟨#[], #[.int .u32 0], []⟩ 8 (by kernel_rfl) (by kernel_rfl) (by kernel_rfl) (by kernel_rfl))
    rfl (by kernel_rfl) (fun ds h => match ds, h with | [_], _ => rfl) rfl Try.underlying4 walked

theorem over : Rows.decodeReadsRow.holds Try.pinned (OpenSpec.ofChange Rows.decodeReadsSpec) :=
  OpenClaim.holds_of_wide 3 Try.f3 rfl rfl rfl rfl rfl rfl rfl ⟨rfl, rfl, rfl, rfl, rfl⟩ rfl rfl rfl rfl rfl (by kernel_rfl) Try.func3 (by kernel_rfl)
    (of_decide_eq_true (by kernel_rfl)) (by unfold Func.isWrapper; first | (rw [if_pos (by decide +kernel)]; kernel_rfl) | (rw [if_neg (by decide +kernel)]; exact ⟨rfl, rfl⟩))
    (fun os started _ _ _ => lifted os started)

theorem proved : Rows.DecodeReadsSaid := over
end Go.Proofs.Ytopbdiekfhikmaa.decodeReads
