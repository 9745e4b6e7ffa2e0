/-
  PROVES Rows.UartRoomSaid: for every input the law returns true and leaves its arguments alone; no conditions.
-/
import Derived.Test.YtaholijnfekkgaaOpen
import Derived.Test.YtaholijnfekkgaaU7
namespace Go.Proofs.Ytaholijnfekkgaa.uartRoom
open Go.ChangeShapes Go.WideShapes Go.ChangeAt Go.RowKit

set_option maxRecDepth 100000 in
theorem walked (W : World) (args : Array Value) (hl : args.toList.length = Try.f5.params.toList.length) (hA : ∀ (j : Nat) t v, Try.f5.params[j]? = some t → args[j]? = some v → Arg Try.prog W t v) :
    Calls Try.prog 5 args W fun e w' => e = .returned (.bool true) ∧ Below W.heap.size W w' := by
  rw [Try.params5] at hl hA
  obtain ⟨l⟩ := args
  obtain ⟨v0, rfl⟩ : ∃ v0 : Value, l = [v0] := by
    match l, hl with
    | [v0], _ => exact ⟨_, rfl⟩
  have h0 : Arg Try.prog W 35 v0 := hA 0 35 v0 rfl rfl
  obtain ⟨A0, l0, cap0, rfl, hc0, hl0, s0⟩ := h0.slice 5 [.some .u8] Try.underlying35 (by kernel_rfl) (by kernel_rfl) (by decide)
  rw [show Try.prog.bytesOf 5 = 1 from by kernel_rfl] at hl0
  unfold reachBytes at hl0
  refine room_walk _ l0 (fun i => ci W (ablk A0) (aoff A0 + i)) W ?_
  by_cases h : 0 < l0
  · obtain ⟨ab, ao, rfl, hab, hX⟩ := s0 h
    refine .inr ⟨ab, ao, cap0, rfl, fun _ => hab, by omega, fun i hi => ?_⟩
    obtain ⟨cs, hf, hc⟩ := hX i hi
    have := cell_int hf hc (j := 0) rfl
    simp only [List.length_singleton, Nat.mul_one, Nat.add_zero] at this
    have hb := bounds_u8 this.2
    exact ⟨this.1, hb.1, show ci W ab (ao + i) < 256 by omega⟩
  · obtain rfl : l0 = 0 := by omega
    exact .inl ⟨rfl, _, _, rfl⟩

set_option maxRecDepth 100000 in
theorem lifted {H : Type} {enc : TypeId × Value → H} (os : Os) (started : os.Started) :
    ReturnsInHanded {} Try.checked os 5 .any (Rows.uartRoomSpec.pre6 enc Try.prog Try.f5 Rows.uartRoomRow.domain false) (Rows.uartRoomSpec.post enc Try.prog Try.f5 false true false false) :=
  lift started (by kernel_rfl) Try.func5 (ChangeSpec.witness6 (enc := enc) (C := Try.checked) false ⟨#[], #[.slice none 0 0], []⟩ 8 (by kernel_rfl) (by kernel_rfl) (by kernel_rfl) (by kernel_rfl))
    rfl (by kernel_rfl) (fun ds h => match ds, h with | [_], _ => rfl) rfl Try.underlying4 walked

theorem over : Rows.uartRoomRow.holds Try.pinned (OpenSpec.ofChange Rows.uartRoomSpec) :=
  OpenClaim.holds_of_wide 5 Try.f5 rfl rfl rfl rfl rfl rfl rfl ⟨rfl, rfl, rfl, rfl, rfl⟩ rfl rfl rfl rfl rfl (by kernel_rfl) Try.func5 (by kernel_rfl)
    (of_decide_eq_true (by kernel_rfl)) (by unfold Func.isWrapper; first | (rw [if_pos (by decide +kernel)]; kernel_rfl) | (rw [if_neg (by decide +kernel)]; exact ⟨rfl, rfl⟩))
    (fun os started _ _ _ => lifted os started)

theorem proved : Rows.UartRoomSaid := over
end Go.Proofs.Ytaholijnfekkgaa.uartRoom
