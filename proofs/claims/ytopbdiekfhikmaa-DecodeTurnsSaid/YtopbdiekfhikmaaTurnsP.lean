/-
  PROVES Rows.DecodeTurnsSaid: for every input the law returns true and leaves its arguments alone; no conditions.
-/
import Derived.Test.YtopbdiekfhikmaaOpen
import Derived.Test.YtopbdiekfhikmaaM1
namespace Go.Proofs.Ytopbdiekfhikmaa.decodeTurns
open Go.ChangeShapes Go.WideShapes Go.ChangeAt Go.RowKit

set_option maxRecDepth 100000 in
theorem walked (W : World) (args : Array Value) (hl : args.toList.length = Try.f7.params.toList.length) (hA : ∀ (j : Nat) t v, Try.f7.params[j]? = some t → args[j]? = some v → Arg Try.prog W t v) :
    Calls Try.prog 7 args W fun e w' => e = .returned (.bool true) ∧ Below W.heap.size W w' := by
  rw [Try.params7] at hl hA
  obtain ⟨l⟩ := args
  obtain ⟨v0, v1, rfl⟩ : ∃ v0 v1 : Value, l = [v0, v1] := by
    match l, hl with
    | [v0, v1], _ => exact ⟨_, _, rfl⟩
  have h0 : Arg Try.prog W 22 v0 := hA 0 22 v0 rfl rfl
  obtain ⟨n0, rfl⟩ := h0.one.2.1 _ Try.underlying22
  have wf0 : (Lit.int .u32 n0).wf = true := by obtain ⟨⟨m, e, hm⟩, _⟩ := h0.flat [.some .u32] (by kernel_rfl); injection e with _ e; rw [e]; exact hm
  have h1 : Arg Try.prog W 3 v1 := hA 1 3 v1 rfl rfl
  obtain ⟨n1, rfl⟩ := h1.one.2.1 _ Try.underlying3
  have wf1 : (Lit.int .i64 n1).wf = true := by obtain ⟨⟨m, e, hm⟩, _⟩ := h1.flat [.some .i64] (by kernel_rfl); injection e with _ e; rw [e]; exact hm
  have hn := wf0
  simp [Lit.wf, IntKind.min, IntKind.max, IntKind.signed, IntKind.bits] at hn
  obtain ⟨b, rfl⟩ : ∃ b : Nat, n0 = (b : Int) := ⟨n0.toNat, by omega⟩
  exact (turns_walk b (by omega) n1 W).mono fun _ _ ⟨h1, hq⟩ => ⟨h1, hq.os, hq.tape, hq.output, hq.size, fun k hk => hq.block k hk (by simp)⟩

set_option maxRecDepth 100000 in
theorem lifted {H : Type} {enc : TypeId × Value → H} (os : Os) (started : os.Started) :
    ReturnsInHanded {} Try.checked os 7 .any (Rows.decodeTurnsSpec.pre6 enc Try.prog Try.f7 Rows.decodeTurnsRow.domain false) (Rows.decodeTurnsSpec.post enc Try.prog Try.f7 false true false false) :=
  lift started (by kernel_rfl) Try.func7 (ChangeSpec.witness6 (enc := enc) (C := Try.checked) false ⟨#[], #[.int .u32 0, .int .i64 0], []⟩ 8 (by kernel_rfl) (by kernel_rfl) (by kernel_rfl) (by kernel_rfl))
    rfl (by kernel_rfl) (fun ds h => match ds, h with | [_, _], _ => rfl) rfl Try.underlying4 walked

theorem over : Rows.decodeTurnsRow.holds Try.pinned (OpenSpec.ofChange Rows.decodeTurnsSpec) :=
  OpenClaim.holds_of_wide 7 Try.f7 rfl rfl rfl rfl rfl rfl rfl ⟨rfl, rfl, rfl, rfl, rfl⟩ rfl rfl rfl rfl rfl (by kernel_rfl) Try.func7 (by kernel_rfl)
    (of_decide_eq_true (by kernel_rfl)) (by unfold Func.isWrapper; first | (rw [if_pos (by decide +kernel)]; kernel_rfl) | (rw [if_neg (by decide +kernel)]; exact ⟨rfl, rfl⟩))
    (fun os started _ _ _ => lifted os started)

theorem proved : Rows.DecodeTurnsSaid := over
end Go.Proofs.Ytopbdiekfhikmaa.decodeTurns
