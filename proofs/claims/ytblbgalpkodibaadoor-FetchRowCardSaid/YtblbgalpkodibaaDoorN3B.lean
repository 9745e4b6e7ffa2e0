/- Layer 4: both tables, of the halves of quarter 1, by reckoning. -/
import Derived.Test.YtblbgalpkodibaaDoorN2
namespace Go.Proofs.YtblbgalpkodibaaDoor

theorem okD_8 : allB okD 11 16384 = true := by kernel_rfl
theorem okD_9 : allB okD 11 18432 = true := by kernel_rfl
theorem okD_10 : allB okD 11 20480 = true := by kernel_rfl
theorem okD_11 : allB okD 11 22528 = true := by kernel_rfl
theorem okD_12 : allB okD 11 24576 = true := by kernel_rfl
theorem okD_13 : allB okD 11 26624 = true := by kernel_rfl
theorem okD_14 : allB okD 11 28672 = true := by kernel_rfl
theorem okD_15 : allB okD 11 30720 = true := by kernel_rfl
end Go.Proofs.YtblbgalpkodibaaDoor
