/-
  PROVES Rows.SqueezeShrinksCardSaid: for every input the law returns true and leaves its arguments alone; the listed table reads as the program's text lays it (tied).
-/
import Derived.Test.YtaemkfcdhgpdnaaDoorOpenL
import Derived.Test.YtaemkfcdhgpdnaaDoorL1
import Derived.Test.YtaemkfcdhgpdnaaDoorCards
import Derived.Test.YtaemkfcdhgpdnaaDoorTie
import Derived.SevenTiedAt
import Derived.Test.YtaemkfcdhgpdnaaDoorR8
namespace Go.Proofs.YtaemkfcdhgpdnaaDoor.squeezeShrinks
open Go.ChangeShapes Go.WideShapes Go.ChangeAt Go.RowKit

set_option maxRecDepth 100000 in
theorem walked (W : World) (args : Array Value) (hX : laidMetH Tryd.prog laidP W) (hl : args.toList.length = Tryd.f4.params.toList.length) (hA : ∀ (j : Nat) t v, Tryd.f4.params[j]? = some t → args[j]? = some v → Arg Tryd.prog W t v) :
    Calls Tryd.prog 4 args W fun e w' => e = .returned (.bool true) ∧ Below W.heap.size W w' := by
  rw [Tryd.params4] at hl hA
  obtain ⟨l⟩ := args
  obtain ⟨v0, rfl⟩ : ∃ v0 : Value, l = [v0] := by
    match l, hl with
    | [v0], _ => exact ⟨_, rfl⟩
  have h0 : Arg Tryd.prog W 23 v0 := hA 0 23 v0 rfl rfl
  obtain ⟨n0, rfl⟩ := h0.one.2.1 _ Tryd.underlying23
  have wf0 : (Lit.int .u32 n0).wf = true := by obtain ⟨⟨m, e, hm⟩, _⟩ := h0.flat [.some .u32] (by kernel_rfl); injection e with _ e; rw [e]; exact hm
  have hn1 : 0 ≤ n0 := by simp [Lit.wf, IntKind.min, IntKind.max, IntKind.signed, IntKind.bits] at wf0; omega
  obtain ⟨x, rfl⟩ : ∃ x : Nat, n0 = x := ⟨n0.toNat, by omega⟩
  exact (shrinks_walk (tab_of_laid hX) x W (GN.refl W)).mono fun e w' ⟨he, hg⟩ => ⟨he, below_of_grown hg⟩

set_option maxRecDepth 100000 in
theorem lifted {H : Type} {enc : TypeId × Value → H} (os : Os) (started : os.Started) :
    ReturnsInHanded {} Tryd.checked os 4 .any (fun w args => (Rows.squeezeShrinksSpec.pre enc Tryd.prog Tryd.f4 [] false w args ∧ laidMetH Tryd.prog laidP w) ∧ sizedMet enc Tryd.prog Tryd.f4 (OpenSpec.ofChange Rows.squeezeShrinksSpec) false w args) (Rows.squeezeShrinksSpec.post enc Tryd.prog Tryd.f4 false true false false) :=
  liftL (X := fun w => laidMetH Tryd.prog laidP w) started (fun _ _ hh h => h.of_heap hh) (by kernel_rfl) Tryd.func4
    (ChangeSpec.witness_shaped (enc := enc) (C := Tryd.checked) (os := os) (X := fun w _ => laidMetH Tryd.prog laidP w) false (World.doorLaid Tryd.prog 23 os) #[.int .u32 0] 8 rfl (World.shaped_of_RefB (by kernel_rfl) (by kernel_rfl)) (by kernel_rfl) (by kernel_rfl) (by kernel_rfl) (door_met os _))
    rfl (by kernel_rfl) (fun ds h => match ds, h with | [_], _ => rfl) rfl Tryd.underlying4 walked

theorem over : Rows.squeezeShrinksRow.holds Tryd.pinned (OpenSpec.ofChange Rows.squeezeShrinksSpec) :=
  OpenClaim.holds_of_wide 4 Tryd.f4 rfl rfl rfl rfl rfl rfl rfl ⟨rfl, rfl, rfl, rfl, rfl⟩ rfl rfl rfl rfl rfl (by kernel_rfl) Tryd.func4 (by kernel_rfl)
    (of_decide_eq_true (by kernel_rfl)) (by unfold Func.isWrapper; first | (rw [if_pos (by decide +kernel)]; kernel_rfl) | (rw [if_neg (by decide +kernel)]; exact ⟨rfl, rfl⟩))
    (fun os started _ _ _ => lifted os started)

theorem said : Rows.SqueezeShrinksSaid := over
theorem proved : Rows.SqueezeShrinksCardSaid :=
  Claim7.holds_tied_plain_at .later [] [.widerDeep] true (true, "b391b7c29c9d694eb953e12d0b6cfb3b82c4369fe774af31f0aecbfc7223fd82") false
    said (fun _ h => by cases h) (by kernel_rfl) (fun _ h => by cases h) squeezeShrinks_row_tie rfl ⟨rfl, rfl⟩ (by kernel_rfl) rfl
    (fun f fn hf hfn => by
      obtain rfl : f = 4 := Option.some.inj ((show Tryd.prog.funcNamed "tandem/tandemlaw04.SqueezeShrinks" = some 4 by kernel_rfl).symm.trans hf) |>.symm
      obtain rfl : fn = Tryd.f4 := (Option.some.inj (Tryd.func4.symm.trans hfn)).symm
      exact ⟨by kernel_rfl, fun j t ht => by
        rw [Tryd.params4] at ht
        have hm : t ∈ [23] := by simpa using Array.mem_of_getElem? ht
        have hall : ([23].all fun u => !Tryd.prog.wantsStandIn u) = true := by kernel_rfl
        exact (show Tryd.prog.wantsStandIn t = false by simpa using List.all_eq_true.1 hall t hm)⟩)
    (by kernel_rfl)
end Go.Proofs.YtaemkfcdhgpdnaaDoor.squeezeShrinks
