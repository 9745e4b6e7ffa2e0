/- Layer 3, the document's side: op 83 reckoned. -/
import Derived.Test.YtopbdiekfhikmaaA1
namespace Go.Proofs.Ytopbdiekfhikmaa
theorem c83_0_0 : okX X_83 83 [0] (List.range 128) (List.range 32) [0] = true := by decide +kernel
theorem c83_1_0 : okX X_83 83 [1] (List.range 128) (List.range 32) [0] = true := by decide +kernel
theorem c83_2_0 : okX X_83 83 [2] (List.range 128) (List.range 32) [0] = true := by decide +kernel
theorem c83_3_0 : okX X_83 83 [3] (List.range 128) (List.range 32) [0] = true := by decide +kernel
theorem c83_4_0 : okX X_83 83 [4] (List.range 128) (List.range 32) [0] = true := by decide +kernel
theorem c83_5_0 : okX X_83 83 [5] (List.range 128) (List.range 32) [0] = true := by decide +kernel
theorem c83_6_0 : okX X_83 83 [6] (List.range 128) (List.range 32) [0] = true := by decide +kernel
theorem c83_7_0 : okX X_83 83 [7] (List.range 128) (List.range 32) [0] = true := by decide +kernel
theorem ok_83 : okAt 83 (List.range 8) (List.range 128) (List.range 32) [0] = true := okAt_of fun f hf g hg r2 hr rd h1 r1 h2 => by
  rw [refC_X X_83_eq]
  rcases cases8 hf with rfl | rfl | rfl | rfl | rfl | rfl | rfl | rfl
  · exact okX_get c83_0_0 (by simp) hg (List.mem_range.2 hr) h1 h2
  · exact okX_get c83_1_0 (by simp) hg (List.mem_range.2 hr) h1 h2
  · exact okX_get c83_2_0 (by simp) hg (List.mem_range.2 hr) h1 h2
  · exact okX_get c83_3_0 (by simp) hg (List.mem_range.2 hr) h1 h2
  · exact okX_get c83_4_0 (by simp) hg (List.mem_range.2 hr) h1 h2
  · exact okX_get c83_5_0 (by simp) hg (List.mem_range.2 hr) h1 h2
  · exact okX_get c83_6_0 (by simp) hg (List.mem_range.2 hr) h1 h2
  · exact okX_get c83_7_0 (by simp) hg (List.mem_range.2 hr) h1 h2
end Go.Proofs.Ytopbdiekfhikmaa
