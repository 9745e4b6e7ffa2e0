/-
  PROVES Rows.FetchDoesCardSaid: for every input the law returns true and leaves its arguments alone; the listed table reads as the program's text lays it (tied).
-/
import Derived.Test.YtblbgalpkodibaaDoorOpenL
import Derived.Test.YtblbgalpkodibaaDoorL1
import Derived.Test.YtblbgalpkodibaaDoorCards
import Derived.Test.YtblbgalpkodibaaDoorTie
import Derived.SevenTiedAt
import Derived.Test.YtblbgalpkodibaaDoorH8
namespace Go.Proofs.YtblbgalpkodibaaDoor.fetchDoes
open Go.ChangeShapes Go.WideShapes Go.ChangeAt Go.RowKit

set_option maxRecDepth 100000 in
theorem walked (W : World) (args : Array Value) (hX : laidMetH Tryd.prog laidP W) (hl : args.toList.length = Tryd.f6.params.toList.length) (hA : ∀ (j : Nat) t v, Tryd.f6.params[j]? = some t → args[j]? = some v → Arg Tryd.prog W t v) :
    Calls Tryd.prog 6 args W fun e w' => e = .returned (.bool true) ∧ Below W.heap.size W w' := by
  rw [Tryd.params6] at hl hA
  obtain ⟨l⟩ := args
  obtain ⟨v0, v1, v2, rfl⟩ : ∃ v0 v1 v2 : Value, l = [v0, v1, v2] := by
    match l, hl with
    | [v0, v1, v2], _ => exact ⟨_, _, _, rfl⟩
  have h0 : Arg Tryd.prog W 22 v0 := hA 0 22 v0 rfl rfl
  obtain ⟨n0, rfl⟩ := h0.one.2.1 _ Tryd.underlying22
  have wf0 : (Lit.int .u64 n0).wf = true := by obtain ⟨⟨m, e, hm⟩, _⟩ := h0.flat [.some .u64] (by kernel_rfl); injection e with _ e; rw [e]; exact hm
  have h1 : Arg Tryd.prog W 22 v1 := hA 1 22 v1 rfl rfl
  obtain ⟨n1, rfl⟩ := h1.one.2.1 _ Tryd.underlying22
  have wf1 : (Lit.int .u64 n1).wf = true := by obtain ⟨⟨m, e, hm⟩, _⟩ := h1.flat [.some .u64] (by kernel_rfl); injection e with _ e; rw [e]; exact hm
  have h2 : Arg Tryd.prog W 53 v2 := hA 2 53 v2 rfl rfl
  obtain ⟨A2, l2, cap2, rfl, hc2, hl2, s2⟩ := h2.slice 59 [.some .i64, .some .i64, .some .u64, .some .u64] Tryd.underlying53 (by kernel_rfl) (by kernel_rfl) (by decide)
  rw [show Tryd.prog.bytesOf 59 = 32 from by kernel_rfl] at hl2
  unfold reachBytes at hl2
  exact does_walk n0 n1 (b64' wf0) (b64' wf1) A2 l2 cap2 W (tab_of_laid hX) s2 (by omega)

set_option maxRecDepth 100000 in
theorem lifted {H : Type} {enc : TypeId × Value → H} (os : Os) (started : os.Started) :
    ReturnsInHanded {} Tryd.checked os 6 .any (fun w args => (Rows.fetchDoesSpec.pre enc Tryd.prog Tryd.f6 [] false w args ∧ laidMetH Tryd.prog laidP w) ∧ sizedMet enc Tryd.prog Tryd.f6 (OpenSpec.ofChange Rows.fetchDoesSpec) false w args) (Rows.fetchDoesSpec.post enc Tryd.prog Tryd.f6 false true false false) :=
  liftL (X := fun w => laidMetH Tryd.prog laidP w) started (fun _ _ hh h => h.of_heap hh) (by kernel_rfl) Tryd.func6
    (ChangeSpec.witness_shaped (enc := enc) (C := Tryd.checked) (os := os) (X := fun w _ => laidMetH Tryd.prog laidP w) false (World.doorLaid Tryd.prog 23 os) #[.int .u64 0, .int .u64 0, .slice none 0 0] 8 rfl (World.shaped_of_RefB (by kernel_rfl) (by kernel_rfl)) (by kernel_rfl) (by kernel_rfl) (by kernel_rfl) (door_met os _))
    rfl (by kernel_rfl) (fun ds h => match ds, h with | [_, _, _], _ => rfl) rfl Tryd.underlying4 walked

theorem over : Rows.fetchDoesRow.holds Tryd.pinned (OpenSpec.ofChange Rows.fetchDoesSpec) :=
  OpenClaim.holds_of_wide 6 Tryd.f6 rfl rfl rfl rfl rfl rfl rfl ⟨rfl, rfl, rfl, rfl, rfl⟩ rfl rfl rfl rfl rfl (by kernel_rfl) Tryd.func6 (by kernel_rfl)
    (of_decide_eq_true (by kernel_rfl)) (by unfold Func.isWrapper; first | (rw [if_pos (by decide +kernel)]; kernel_rfl) | (rw [if_neg (by decide +kernel)]; exact ⟨rfl, rfl⟩))
    (fun os started _ _ _ => lifted os started)

theorem said : Rows.FetchDoesSaid := over
theorem proved : Rows.FetchDoesCardSaid :=
  Claim7.holds_tied_plain_at .later [] [.widerDeep] true (true, "37a831f9a41131f63cedd85205cc6667fbe94b4ac0c7369c05692ba4121ea36e") false
    said (fun _ h => by cases h) (by kernel_rfl) (fun _ h => by cases h) fetchDoes_row_tie rfl ⟨rfl, rfl⟩ (by kernel_rfl) rfl
    (fun f fn hf hfn => by
      obtain rfl : f = 6 := Option.some.inj ((show Tryd.prog.funcNamed "tandem/tandemlaw20.FetchDoes" = some 6 by kernel_rfl).symm.trans hf) |>.symm
      obtain rfl : fn = Tryd.f6 := (Option.some.inj (Tryd.func6.symm.trans hfn)).symm
      exact ⟨by kernel_rfl, fun j t ht => by
        rw [Tryd.params6] at ht
        have hm : t ∈ [22, 22, 53] := by simpa using Array.mem_of_getElem? ht
        have hall : ([22, 22, 53].all fun u => !Tryd.prog.wantsStandIn u) = true := by kernel_rfl
        exact (show Tryd.prog.wantsStandIn t = false by simpa using List.all_eq_true.1 hall t hm)⟩)
    (by kernel_rfl)
end Go.Proofs.YtblbgalpkodibaaDoor.fetchDoes
