/- Layer 4: both tables, of the halves of quarter 0, by reckoning. -/
import Derived.Test.YtblbgalpkodibaaDoorN2
namespace Go.Proofs.YtblbgalpkodibaaDoor

theorem okD_0 : allB okD 11 0 = true := by kernel_rfl
theorem okD_1 : allB okD 11 2048 = true := by kernel_rfl
theorem okD_2 : allB okD 11 4096 = true := by kernel_rfl
theorem okD_3 : allB okD 11 6144 = true := by kernel_rfl
theorem okD_4 : allB okD 11 8192 = true := by kernel_rfl
theorem okD_5 : allB okD 11 10240 = true := by kernel_rfl
theorem okD_6 : allB okD 11 12288 = true := by kernel_rfl
theorem okD_7 : allB okD 11 14336 = true := by kernel_rfl
end Go.Proofs.YtblbgalpkodibaaDoor
