/- Layer 4: both tables, of the halves of quarter 3, by reckoning. -/
import Derived.Test.YtblbgalpkodibaaDoorN2
namespace Go.Proofs.YtblbgalpkodibaaDoor

theorem okD_24 : allB okD 11 49152 = true := by kernel_rfl
theorem okD_25 : allB okD 11 51200 = true := by kernel_rfl
theorem okD_26 : allB okD 11 53248 = true := by kernel_rfl
theorem okD_27 : allB okD 11 55296 = true := by kernel_rfl
theorem okD_28 : allB okD 11 57344 = true := by kernel_rfl
theorem okD_29 : allB okD 11 59392 = true := by kernel_rfl
theorem okD_30 : allB okD 11 61440 = true := by kernel_rfl
theorem okD_31 : allB okD 11 63488 = true := by kernel_rfl
end Go.Proofs.YtblbgalpkodibaaDoor
