/- Layer 4: both tables, of the halves of quarter 2, by reckoning. -/
import Derived.Test.YtblbgalpkodibaaDoorN2
namespace Go.Proofs.YtblbgalpkodibaaDoor

theorem okD_16 : allB okD 11 32768 = true := by kernel_rfl
theorem okD_17 : allB okD 11 34816 = true := by kernel_rfl
theorem okD_18 : allB okD 11 36864 = true := by kernel_rfl
theorem okD_19 : allB okD 11 38912 = true := by kernel_rfl
theorem okD_20 : allB okD 11 40960 = true := by kernel_rfl
theorem okD_21 : allB okD 11 43008 = true := by kernel_rfl
theorem okD_22 : allB okD 11 45056 = true := by kernel_rfl
theorem okD_23 : allB okD 11 47104 = true := by kernel_rfl
end Go.Proofs.YtblbgalpkodibaaDoor
