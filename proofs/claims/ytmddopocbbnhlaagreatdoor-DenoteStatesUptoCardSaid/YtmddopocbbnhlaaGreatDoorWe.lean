/- What the arguments read as; a world that holds what the row lists; the row. No condition. -/
import Derived.Test.YtmddopocbbnhlaaGreatDoorRows
import Derived.ProofKit
import Derived.KernelRfl
set_option linter.all false
set_option maxRecDepth 100000
namespace Go.RW
open Go.Proofs Go.Proofs.YtmddopocbbnhlaaGreatDoor
theorem fa3 : (Rows.denoteStatesUptoRow.recurses == Tryz.pinned.checked.prog.recurses 3) = true := by kernel_rfl
theorem fa4 : (Rows.denoteStatesUptoRow.named == Tryz.pinned.checked.prog.varsNamed 3) = true := by kernel_rfl
end Go.RW
