/-
  PROVES Rows.TlbPagesSaid: for every input the law returns true and leaves its arguments alone; no conditions.
-/
import Derived.Test.YtlkkmpfhhfaioaaOpen
import Derived.Test.YtlkkmpfhhfaioaaT22
namespace Go.Proofs.Ytlkkmpfhhfaioaa.tlbPages
open Go.ChangeShapes Go.WideShapes Go.ChangeAt Go.RowKit

theorem fits_c {k : Option IntKind} {ks : List (Option IntKind)} {vs : List Value} (h : Fits (k :: ks) vs) : ∃ v r, vs = v :: r ∧ fitK k v ∧ Fits ks r := by
  cases vs with
  | nil => exact h.elim
  | cons v r => exact ⟨v, r, rfl, h.1, h.2⟩
theorem step_fits {cs : Array Value} (h : Fits [.some .i64, .some .u64, .some .i64, .some .u64, .none, .some .u64] cs.toList) : ∃ (kd at_ lv sp : Int) (gl : Bool) (lf : Int),
    cs = #[.int .i64 kd, .int .u64 at_, .int .i64 lv, .int .u64 sp, .bool gl, .int .u64 lf] ∧ (Lit.int .u64 at_).wf = true ∧ (Lit.int .i64 lv).wf = true ∧ (Lit.int .u64 sp).wf = true ∧ (Lit.int .u64 lf).wf = true := by
  obtain ⟨l⟩ := cs
  obtain ⟨v0, r0, rfl, ⟨kd, rfl, _⟩, k0⟩ := fits_c h
  obtain ⟨v1, r1, rfl, ⟨at_, rfl, u1⟩, k1⟩ := fits_c k0
  obtain ⟨v2, r2, rfl, ⟨lv, rfl, u2⟩, k2⟩ := fits_c k1
  obtain ⟨v3, r3, rfl, ⟨sp, rfl, u3⟩, k3⟩ := fits_c k2
  obtain ⟨v4, r4, rfl, ⟨gl, rfl⟩, k4⟩ := fits_c k3
  obtain ⟨v5, r5, rfl, ⟨lf, rfl, u5⟩, k5⟩ := fits_c k4
  cases r5 with
  | nil => exact ⟨kd, at_, lv, sp, gl, lf, rfl, u1, u2, u3, u5⟩
  | cons v r => exact k5.elim

set_option maxRecDepth 100000 in
theorem walked (W : World) (args : Array Value) (hl : args.toList.length = Try.f6.params.toList.length) (hA : ∀ (j : Nat) t v, Try.f6.params[j]? = some t → args[j]? = some v → Arg Try.prog W t v) :
    Calls Try.prog 6 args W fun e w' => e = .returned (.bool true) ∧ Below W.heap.size W w' := by
  rw [Try.params6] at hl hA
  obtain ⟨l⟩ := args
  obtain ⟨v0, v1, v2, v3, rfl⟩ : ∃ v0 v1 v2 v3 : Value, l = [v0, v1, v2, v3] := by
    match l, hl with
    | [v0, v1, v2, v3], _ => exact ⟨_, _, _, _, rfl⟩
  have h0 : Arg Try.prog W 30 v0 := hA 0 30 v0 rfl rfl
  obtain ⟨cs0, rfl⟩ := h0.one.2.2 _ Try.underlying30
  have f0 : Fits [.some .i64, .some .u64, .some .i64, .some .u64, .none, .some .u64] cs0.toList := h0.flat _ (by kernel_rfl)
  have h1 : Arg Try.prog W 22 v1 := hA 1 22 v1 rfl rfl
  obtain ⟨n1, rfl⟩ := h1.one.2.1 _ Try.underlying22
  have wf1 : (Lit.int .u64 n1).wf = true := by obtain ⟨⟨m, e, hm⟩, _⟩ := h1.flat [.some .u64] (by kernel_rfl); injection e with _ e; rw [e]; exact hm
  have h2 : Arg Try.prog W 22 v2 := hA 2 22 v2 rfl rfl
  obtain ⟨n2, rfl⟩ := h2.one.2.1 _ Try.underlying22
  have wf2 : (Lit.int .u64 n2).wf = true := by obtain ⟨⟨m, e, hm⟩, _⟩ := h2.flat [.some .u64] (by kernel_rfl); injection e with _ e; rw [e]; exact hm
  have h3 : Arg Try.prog W 22 v3 := hA 3 22 v3 rfl rfl
  obtain ⟨n3, rfl⟩ := h3.one.2.1 _ Try.underlying22
  have wf3 : (Lit.int .u64 n3).wf = true := by obtain ⟨⟨m, e, hm⟩, _⟩ := h3.flat [.some .u64] (by kernel_rfl); injection e with _ e; rw [e]; exact hm
  obtain ⟨kd, at_, lv, sp, gl, lf, rfl, u1, u2, u3, u5⟩ := step_fits f0
  exact pages_walk kd at_ lv sp gl lf (b64' u1).1 (b64' u1).2 (i64' u2).1 (i64' u2).2 (b64' u3).1 (b64' u3).2 (b64' u5).1 (b64' u5).2 n1 n2 (b64' wf2).1 (b64' wf2).2 n3 (b64' wf3).1 (b64' wf3).2 W

set_option maxRecDepth 100000 in
theorem lifted {H : Type} {enc : TypeId × Value → H} (os : Os) (started : os.Started) :
    ReturnsInHanded {} Try.checked os 6 .any (Rows.tlbPagesSpec.pre6 enc Try.prog Try.f6 Rows.tlbPagesRow.domain false) (Rows.tlbPagesSpec.post enc Try.prog Try.f6 false true false false) :=
  lift started (by kernel_rfl) Try.func6 (ChangeSpec.witness6 (enc := enc) (C := Try.checked) false ⟨#[], #[.agg #[.int .i64 0, .int .u64 0, .int .i64 0, .int .u64 0, .bool false, .int .u64 0], .int .u64 0, .int .u64 0, .int .u64 0], []⟩ 8 (by kernel_rfl) (by kernel_rfl) (by kernel_rfl) (by kernel_rfl))
    rfl (by kernel_rfl) (fun ds h => match ds, h with | [_, _, _, _], _ => rfl) rfl Try.underlying4 walked

theorem over : Rows.tlbPagesRow.holds Try.pinned (OpenSpec.ofChange Rows.tlbPagesSpec) :=
  OpenClaim.holds_of_wide 6 Try.f6 rfl rfl rfl rfl rfl rfl rfl ⟨rfl, rfl, rfl, rfl, rfl⟩ rfl rfl rfl rfl rfl (by kernel_rfl) Try.func6 (by kernel_rfl)
    (of_decide_eq_true (by kernel_rfl)) (by unfold Func.isWrapper; first | (rw [if_pos (by decide +kernel)]; kernel_rfl) | (rw [if_neg (by decide +kernel)]; exact ⟨rfl, rfl⟩))
    (fun os started _ _ _ => lifted os started)

theorem proved : Rows.TlbPagesSaid := over
end Go.Proofs.Ytlkkmpfhhfaioaa.tlbPages
