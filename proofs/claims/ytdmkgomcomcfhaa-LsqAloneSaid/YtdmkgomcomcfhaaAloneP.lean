/-
  PROVES Rows.LsqAloneSaid: for every input the law returns true and leaves its arguments alone; no conditions.
-/
import Derived.Test.YtdmkgomcomcfhaaOpen
import Derived.Test.YtdmkgomcomcfhaaQ20
namespace Go.Proofs.Ytdmkgomcomcfhaa.lsqAlone
open Go.ChangeShapes Go.WideShapes Go.ChangeAt Go.RowKit

set_option maxRecDepth 100000 in
theorem walked (W : World) (args : Array Value) (hl : args.toList.length = Try.f6.params.toList.length) (hA : ∀ (j : Nat) t v, Try.f6.params[j]? = some t → args[j]? = some v → Arg Try.prog W t v) :
    Calls Try.prog 6 args W fun e w' => e = .returned (.bool true) ∧ Below W.heap.size W w' := by
  rw [Try.params6] at hl hA
  obtain ⟨l⟩ := args
  obtain ⟨v0, v1, v2, rfl⟩ : ∃ v0 v1 v2 : Value, l = [v0, v1, v2] := by
    match l, hl with
    | [v0, v1, v2], _ => exact ⟨_, _, _, rfl⟩
  have h0 : Arg Try.prog W 50 v0 := hA 0 50 v0 rfl rfl
  obtain ⟨A0, l0, cap0, rfl, hc0, hl0, s0⟩ := h0.slice 54 [.none, .some .i64, .some .i64, .some .u64, .some .u64] Try.underlying50 (by kernel_rfl) (by kernel_rfl) (by decide)
  rw [show Try.prog.bytesOf 54 = 40 from by kernel_rfl] at hl0
  unfold reachBytes at hl0
  have h1 : Arg Try.prog W 50 v1 := hA 1 50 v1 rfl rfl
  obtain ⟨A1, l1, cap1, rfl, hc1, hl1, s1⟩ := h1.slice 54 [.none, .some .i64, .some .i64, .some .u64, .some .u64] Try.underlying50 (by kernel_rfl) (by kernel_rfl) (by decide)
  rw [show Try.prog.bytesOf 54 = 40 from by kernel_rfl] at hl1
  unfold reachBytes at hl1
  have h2 : Arg Try.prog W 3 v2 := hA 2 3 v2 rfl rfl
  obtain ⟨n2, rfl⟩ := h2.one.2.1 _ Try.underlying3
  have wf2 : (Lit.int .i64 n2).wf = true := by obtain ⟨⟨m, e, hm⟩, _⟩ := h2.flat [.some .i64] (by kernel_rfl); injection e with _ e; rw [e]; exact hm
  exact alone_walk n2 (i64' wf2) A0 A1 l0 cap0 l1 cap1 W s0 (by omega) s1 (by omega)

set_option maxRecDepth 100000 in
theorem lifted {H : Type} {enc : TypeId × Value → H} (os : Os) (started : os.Started) :
    ReturnsInHanded {} Try.checked os 6 .any (Rows.lsqAloneSpec.pre6 enc Try.prog Try.f6 Rows.lsqAloneRow.domain false) (Rows.lsqAloneSpec.post enc Try.prog Try.f6 false true false false) :=
  lift started (by kernel_rfl) Try.func6 (ChangeSpec.witness6 (enc := enc) (C := Try.checked) false ⟨#[], #[.slice none 0 0, .slice none 0 0, .int .i64 0], []⟩ 8 (by kernel_rfl) (by kernel_rfl) (by kernel_rfl) (by kernel_rfl))
    rfl (by kernel_rfl) (fun ds h => match ds, h with | [_, _, _], _ => rfl) rfl Try.underlying4 walked

theorem over : Rows.lsqAloneRow.holds Try.pinned (OpenSpec.ofChange Rows.lsqAloneSpec) :=
  OpenClaim.holds_of_wide 6 Try.f6 rfl rfl rfl rfl rfl rfl rfl ⟨rfl, rfl, rfl, rfl, rfl⟩ rfl rfl rfl rfl rfl (by kernel_rfl) Try.func6 (by kernel_rfl)
    (of_decide_eq_true (by kernel_rfl)) (by unfold Func.isWrapper; first | (rw [if_pos (by decide +kernel)]; kernel_rfl) | (rw [if_neg (by decide +kernel)]; exact ⟨rfl, rfl⟩))
    (fun os started _ _ _ => lifted os started)

theorem proved : Rows.LsqAloneSaid := over
end Go.Proofs.Ytdmkgomcomcfhaa.lsqAlone
