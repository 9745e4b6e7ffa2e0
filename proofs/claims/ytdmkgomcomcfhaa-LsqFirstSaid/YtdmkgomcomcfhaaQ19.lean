/- Layer 23: an operation that is an argument. -/
import Derived.Test.YtdmkgomcomcfhaaQ18
namespace Go.Proofs.Ytdmkgomcomcfhaa
open Go.RowKit

theorem fitK_int {k : IntKind} {v : Value} (h : fitK (some k) v) : ∃ n, v = .int k n ∧ (Lit.int k n).wf = true := h
theorem fitK_bool {v : Value} (h : fitK none v) : ∃ b, v = .bool b := h
theorem ops_of {cs : Array Value} (f : Fits [none, some .i64, some .i64, some .u64, some .u64] cs.toList) : ∃ x : OpS, x.ok ∧ cs = #[.bool x.store, .int .i64 x.at_, .int .i64 x.size, .int .u64 x.v, .int .u64 x.pc] := by
  obtain ⟨l⟩ := cs
  obtain ⟨v0, r0, e0, k0, f⟩ := fits_c f
  obtain ⟨v1, r1, rfl, k1, f⟩ := fits_c f
  obtain ⟨v2, r2, rfl, k2, f⟩ := fits_c f
  obtain ⟨v3, r3, rfl, k3, f⟩ := fits_c f
  obtain ⟨v4, r4, rfl, k4, f⟩ := fits_c f
  obtain rfl := fits_n f
  obtain ⟨b0, rfl⟩ := fitK_bool k0
  obtain ⟨n1, rfl, w1⟩ := fitK_int k1
  obtain ⟨n2, rfl, w2⟩ := fitK_int k2
  obtain ⟨n3, rfl, w3⟩ := fitK_int k3
  obtain ⟨n4, rfl, w4⟩ := fitK_int k4
  dsimp only at e0
  subst e0
  exact ⟨⟨b0, n1, n2, n3, n4⟩, ⟨i64' w1, i64' w2, b64' w3, b64' w4⟩, rfl⟩
end Go.Proofs.Ytdmkgomcomcfhaa
