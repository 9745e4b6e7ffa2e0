/-
  PROVES Rows.TlbSeedsSaid: for every input the law returns true and leaves its arguments alone; no conditions.
-/
import Derived.Test.YtlkkmpfhhfaioaaOpen
import Derived.Test.YtlkkmpfhhfaioaaT20
namespace Go.Proofs.Ytlkkmpfhhfaioaa.tlbSeeds
open Go.ChangeShapes Go.WideShapes Go.ChangeAt Go.RowKit

set_option maxRecDepth 100000 in
theorem walked (W : World) (args : Array Value) (hl : args.toList.length = Try.f5.params.toList.length) (hA : ∀ (j : Nat) t v, Try.f5.params[j]? = some t → args[j]? = some v → Arg Try.prog W t v) :
    Calls Try.prog 5 args W fun e w' => e = .returned (.bool true) ∧ Below W.heap.size W w' := by
  rw [Try.params5] at hl hA
  obtain ⟨l⟩ := args
  obtain ⟨v0, v1, v2, rfl⟩ : ∃ v0 v1 v2 : Value, l = [v0, v1, v2] := by
    match l, hl with
    | [v0, v1, v2], _ => exact ⟨_, _, _, rfl⟩
  have h0 : Arg Try.prog W 22 v0 := hA 0 22 v0 rfl rfl
  obtain ⟨n0, rfl⟩ := h0.one.2.1 _ Try.underlying22
  have wf0 : (Lit.int .u64 n0).wf = true := by obtain ⟨⟨m, e, hm⟩, _⟩ := h0.flat [.some .u64] (by kernel_rfl); injection e with _ e; rw [e]; exact hm
  have h1 : Arg Try.prog W 22 v1 := hA 1 22 v1 rfl rfl
  obtain ⟨n1, rfl⟩ := h1.one.2.1 _ Try.underlying22
  have wf1 : (Lit.int .u64 n1).wf = true := by obtain ⟨⟨m, e, hm⟩, _⟩ := h1.flat [.some .u64] (by kernel_rfl); injection e with _ e; rw [e]; exact hm
  have h2 : Arg Try.prog W 23 v2 := hA 2 23 v2 rfl rfl
  obtain ⟨A2, l2, cap2, rfl, hc2, hl2, s2⟩ := h2.slice 30 [.some .i64, .some .u64, .some .i64, .some .u64, .none, .some .u64] Try.underlying23 (by kernel_rfl) (by kernel_rfl) (by decide)
  rw [show Try.prog.bytesOf 30 = 48 from by kernel_rfl] at hl2
  unfold reachBytes at hl2
  obtain ⟨e0, e1⟩ := b64' wf0
  obtain ⟨e2, e3⟩ := b64' wf1
  exact seeds_walk n0 n1 e0 e1 e2 e3 A2 l2 cap2 W s2 (by omega)

set_option maxRecDepth 100000 in
theorem lifted {H : Type} {enc : TypeId × Value → H} (os : Os) (started : os.Started) :
    ReturnsInHanded {} Try.checked os 5 .any (Rows.tlbSeedsSpec.pre6 enc Try.prog Try.f5 Rows.tlbSeedsRow.domain false) (Rows.tlbSeedsSpec.post enc Try.prog Try.f5 false true false false) :=
  lift started (by kernel_rfl) Try.func5 (ChangeSpec.witness6 (enc := enc) (C := Try.checked) false ⟨#[], #[.int .u64 0, .int .u64 0, .slice none 0 0], []⟩ 8 (by kernel_rfl) (by kernel_rfl) (by kernel_rfl) (by kernel_rfl))
    rfl (by kernel_rfl) (fun ds h => match ds, h with | [_, _, _], _ => rfl) rfl Try.underlying4 walked

theorem over : Rows.tlbSeedsRow.holds Try.pinned (OpenSpec.ofChange Rows.tlbSeedsSpec) :=
  OpenClaim.holds_of_wide 5 Try.f5 rfl rfl rfl rfl rfl rfl rfl ⟨rfl, rfl, rfl, rfl, rfl⟩ rfl rfl rfl rfl rfl (by kernel_rfl) Try.func5 (by kernel_rfl)
    (of_decide_eq_true (by kernel_rfl)) (by unfold Func.isWrapper; first | (rw [if_pos (by decide +kernel)]; kernel_rfl) | (rw [if_neg (by decide +kernel)]; exact ⟨rfl, rfl⟩))
    (fun os started _ _ _ => lifted os started)

theorem proved : Rows.TlbSeedsSaid := over
end Go.Proofs.Ytlkkmpfhhfaioaa.tlbSeeds
