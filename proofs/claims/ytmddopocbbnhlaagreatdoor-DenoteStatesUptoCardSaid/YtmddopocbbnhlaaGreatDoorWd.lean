/- What the arguments read as; a world that holds what the row lists; the row. No condition. -/
import Derived.Test.YtmddopocbbnhlaaGreatDoorRows
import Derived.ProofKit
import Derived.KernelRfl
set_option linter.all false
set_option maxRecDepth 100000
namespace Go.RW
open Go.Proofs Go.Proofs.YtmddopocbbnhlaaGreatDoor
theorem fa1 : (Rows.denoteStatesUptoRow.inPlace == Tryz.pinned.checked.prog.inPlace 3) = true := by kernel_rfl
theorem fa2 : (Rows.denoteStatesUptoRow.unfollowed == Tryz.pinned.checked.prog.unfollowed 3) = true := by kernel_rfl
end Go.RW
