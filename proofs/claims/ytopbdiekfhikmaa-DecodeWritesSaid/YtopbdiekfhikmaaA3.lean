/- Layer 3, the document's side: op 115 reckoned. -/
import Derived.Test.YtopbdiekfhikmaaA1
namespace Go.Proofs.Ytopbdiekfhikmaa
theorem c115_0_0 : okX X_115 115 [0] (List.range 128) (List.range 16) [0, 1] = true := by decide +kernel
theorem c115_0_1 : okX X_115 115 [0] (List.range 128) (List.range' 16 16) [0, 1] = true := by decide +kernel
theorem c115_1_0 : okX X_115 115 [1] (List.range 128) (List.range 16) [0, 1] = true := by decide +kernel
theorem c115_1_1 : okX X_115 115 [1] (List.range 128) (List.range' 16 16) [0, 1] = true := by decide +kernel
theorem c115_2_0 : okX X_115 115 [2] (List.range 128) (List.range 16) [0, 1] = true := by decide +kernel
theorem c115_2_1 : okX X_115 115 [2] (List.range 128) (List.range' 16 16) [0, 1] = true := by decide +kernel
theorem c115_3_0 : okX X_115 115 [3] (List.range 128) (List.range 16) [0, 1] = true := by decide +kernel
theorem c115_3_1 : okX X_115 115 [3] (List.range 128) (List.range' 16 16) [0, 1] = true := by decide +kernel
theorem c115_4_0 : okX X_115 115 [4] (List.range 128) (List.range 16) [0, 1] = true := by decide +kernel
theorem c115_4_1 : okX X_115 115 [4] (List.range 128) (List.range' 16 16) [0, 1] = true := by decide +kernel
theorem c115_5_0 : okX X_115 115 [5] (List.range 128) (List.range 16) [0, 1] = true := by decide +kernel
theorem c115_5_1 : okX X_115 115 [5] (List.range 128) (List.range' 16 16) [0, 1] = true := by decide +kernel
theorem c115_6_0 : okX X_115 115 [6] (List.range 128) (List.range 16) [0, 1] = true := by decide +kernel
theorem c115_6_1 : okX X_115 115 [6] (List.range 128) (List.range' 16 16) [0, 1] = true := by decide +kernel
theorem c115_7_0 : okX X_115 115 [7] (List.range 128) (List.range 16) [0, 1] = true := by decide +kernel
theorem c115_7_1 : okX X_115 115 [7] (List.range 128) (List.range' 16 16) [0, 1] = true := by decide +kernel
theorem ok_115 : okAt 115 (List.range 8) (List.range 128) (List.range 32) [0, 1] = true := okAt_of fun f hf g hg r2 hr rd h1 r1 h2 => by
  rw [refC_X X_115_eq]
  by_cases hq : r2 < 16
  · rcases cases8 hf with rfl | rfl | rfl | rfl | rfl | rfl | rfl | rfl
    · exact okX_get c115_0_0 (by simp) hg (List.mem_range.2 hq) h1 h2
    · exact okX_get c115_1_0 (by simp) hg (List.mem_range.2 hq) h1 h2
    · exact okX_get c115_2_0 (by simp) hg (List.mem_range.2 hq) h1 h2
    · exact okX_get c115_3_0 (by simp) hg (List.mem_range.2 hq) h1 h2
    · exact okX_get c115_4_0 (by simp) hg (List.mem_range.2 hq) h1 h2
    · exact okX_get c115_5_0 (by simp) hg (List.mem_range.2 hq) h1 h2
    · exact okX_get c115_6_0 (by simp) hg (List.mem_range.2 hq) h1 h2
    · exact okX_get c115_7_0 (by simp) hg (List.mem_range.2 hq) h1 h2
  · rcases cases8 hf with rfl | rfl | rfl | rfl | rfl | rfl | rfl | rfl
    · exact okX_get c115_0_1 (by simp) hg (List.mem_range'_1.2 ⟨by omega, by omega⟩) h1 h2
    · exact okX_get c115_1_1 (by simp) hg (List.mem_range'_1.2 ⟨by omega, by omega⟩) h1 h2
    · exact okX_get c115_2_1 (by simp) hg (List.mem_range'_1.2 ⟨by omega, by omega⟩) h1 h2
    · exact okX_get c115_3_1 (by simp) hg (List.mem_range'_1.2 ⟨by omega, by omega⟩) h1 h2
    · exact okX_get c115_4_1 (by simp) hg (List.mem_range'_1.2 ⟨by omega, by omega⟩) h1 h2
    · exact okX_get c115_5_1 (by simp) hg (List.mem_range'_1.2 ⟨by omega, by omega⟩) h1 h2
    · exact okX_get c115_6_1 (by simp) hg (List.mem_range'_1.2 ⟨by omega, by omega⟩) h1 h2
    · exact okX_get c115_7_1 (by simp) hg (List.mem_range'_1.2 ⟨by omega, by omega⟩) h1 h2
end Go.Proofs.Ytopbdiekfhikmaa
