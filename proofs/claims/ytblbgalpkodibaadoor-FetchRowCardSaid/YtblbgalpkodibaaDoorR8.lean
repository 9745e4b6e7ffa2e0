/- Layer 4: as the document has it: the walks. -/
import Derived.Test.YtblbgalpkodibaaDoorN4
namespace Go.Proofs.YtblbgalpkodibaaDoor
open Go.RowKit

theorem rexpand_ex {w0 : World} (hT : Tab w0) (h : Nat) (hh : h < 65536) (w : World) (hg : GN w0 w) : Calls Tryd.prog 14 #[.int .u16 h] w fun e w' => e = .returned (.tuple #[.int .u32 (exN h : Nat), .bool (exN h != 0)]) ∧ GN w0 w' := by
  rw [← rex_eq h hh]
  exact rexpand_any hT h hh w hg
end Go.Proofs.YtblbgalpkodibaaDoor
