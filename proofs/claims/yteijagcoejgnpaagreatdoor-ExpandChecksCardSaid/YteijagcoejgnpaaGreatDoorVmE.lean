/- Seat 1: ExpandChecks: the row's closed facts. Conditions: none but those that each theorem names. -/
import Derived.Test.YteijagcoejgnpaaGreatDoorCards
import Derived.JoinedCond

namespace Go.Proofs.YteijagcoejgnpaaGreatDoor.Checks
set_option maxRecDepth 100000
open Go
theorem facts : joinedFacts Tryz.pinned.checked.prog 3 Tryz.f3 (OpenSpec.ofChange Rows.expandChecksSpec).bare Rows.expandChecksRow = true := by kernel_rfl
theorem named : Tryz.pinned.checked.prog.funcNamed Rows.expandChecksRow.func = some 3 := by kernel_rfl
end Go.Proofs.YteijagcoejgnpaaGreatDoor.Checks
