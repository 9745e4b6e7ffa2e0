/- Layer 3, the document's side: the others reckoned. -/
import Derived.Test.YtopbdiekfhikmaaA1
namespace Go.Proofs.Ytopbdiekfhikmaa
theorem c47_0_0 : okX X_47 47 [0] (List.range 128) (List.range 32) [0] = true := by decide +kernel
theorem c47_1_0 : okX X_47 47 [1] (List.range 128) (List.range 32) [0] = true := by decide +kernel
theorem c47_2_0 : okX X_47 47 [2] (List.range 128) (List.range 32) [0] = true := by decide +kernel
theorem c47_3_0 : okX X_47 47 [3] (List.range 128) (List.range 32) [0] = true := by decide +kernel
theorem c47_4_0 : okX X_47 47 [4] (List.range 128) (List.range 32) [0] = true := by decide +kernel
theorem c47_5_0 : okX X_47 47 [5] (List.range 128) (List.range 32) [0] = true := by decide +kernel
theorem c47_6_0 : okX X_47 47 [6] (List.range 128) (List.range 32) [0] = true := by decide +kernel
theorem c47_7_0 : okX X_47 47 [7] (List.range 128) (List.range 32) [0] = true := by decide +kernel
theorem ok_47 : okAt 47 (List.range 8) (List.range 128) (List.range 32) [0] = true := okAt_of fun f hf g hg r2 hr rd h1 r1 h2 => by
  rw [refC_X X_47_eq]
  rcases cases8 hf with rfl | rfl | rfl | rfl | rfl | rfl | rfl | rfl
  · exact okX_get c47_0_0 (by simp) hg (List.mem_range.2 hr) h1 h2
  · exact okX_get c47_1_0 (by simp) hg (List.mem_range.2 hr) h1 h2
  · exact okX_get c47_2_0 (by simp) hg (List.mem_range.2 hr) h1 h2
  · exact okX_get c47_3_0 (by simp) hg (List.mem_range.2 hr) h1 h2
  · exact okX_get c47_4_0 (by simp) hg (List.mem_range.2 hr) h1 h2
  · exact okX_get c47_5_0 (by simp) hg (List.mem_range.2 hr) h1 h2
  · exact okX_get c47_6_0 (by simp) hg (List.mem_range.2 hr) h1 h2
  · exact okX_get c47_7_0 (by simp) hg (List.mem_range.2 hr) h1 h2
theorem ok_3 : okAt 3 (List.range 8) [0] [0] [0] = true := okX_at X_3_eq (by decide +kernel)
theorem ok_7 : okAt 7 (List.range 8) [0] [0] [0] = true := okX_at X_7_eq (by decide +kernel)
theorem ok_15 : okAt 15 (List.range 8) [0] [0] [0] = true := okX_at X_15_eq (by decide +kernel)
theorem ok_19 : okAt 19 (List.range 8) (List.range 128) [0] [0] = true := okX_at X_19_eq (by decide +kernel)
theorem ok_23 : okAt 23 (List.range 8) [0] [0] [0] = true := okX_at X_23_eq (by decide +kernel)
theorem ok_27 : okAt 27 (List.range 8) (List.range 128) [0] [0] = true := okX_at X_27_eq (by decide +kernel)
theorem ok_35 : okAt 35 (List.range 8) [0] [0] [0] = true := okX_at X_35_eq (by decide +kernel)
theorem ok_39 : okAt 39 (List.range 8) [0] [0] [0] = true := okX_at X_39_eq (by decide +kernel)
theorem ok_51 : okAt 51 (List.range 8) (List.range 128) [0] [0] = true := okX_at X_51_eq (by decide +kernel)
theorem ok_55 : okAt 55 (List.range 8) [0] [0] [0] = true := okX_at X_55_eq (by decide +kernel)
theorem ok_59 : okAt 59 (List.range 8) (List.range 128) [0] [0] = true := okX_at X_59_eq (by decide +kernel)
theorem ok_67 : okAt 67 (List.range 8) (List.range 128) [0] [0] = true := okX_at X_67_eq (by decide +kernel)
theorem ok_71 : okAt 71 (List.range 8) (List.range 128) [0] [0] = true := okX_at X_71_eq (by decide +kernel)
theorem ok_75 : okAt 75 (List.range 8) (List.range 128) [0] [0] = true := okX_at X_75_eq (by decide +kernel)
theorem ok_79 : okAt 79 (List.range 8) (List.range 128) [0] [0] = true := okX_at X_79_eq (by decide +kernel)
theorem ok_99 : okAt 99 (List.range 8) [0] [0] [0] = true := okX_at X_99_eq (by decide +kernel)
theorem ok_103 : okAt 103 (List.range 8) [0] [0] [0] = true := okX_at X_103_eq (by decide +kernel)
theorem ok_111 : okAt 111 (List.range 8) [0] [0] [0] = true := okX_at X_111_eq (by decide +kernel)
end Go.Proofs.Ytopbdiekfhikmaa
