/- Seat 2: FollowChecks: the row's closed facts. Conditions: none but those that each theorem names. -/
import Derived.Test.YtnlijejfagjbeaaGreatDoorCards
import Derived.JoinedCond

namespace Go.Proofs.YtnlijejfagjbeaaGreatDoor.Checks
set_option maxRecDepth 100000
open Go
theorem facts : joinedFacts Tryz.pinned.checked.prog 3 Tryz.f3 (OpenSpec.ofChange Rows.followChecksSpec).bare Rows.followChecksRow = true := by kernel_rfl
theorem named : Tryz.pinned.checked.prog.funcNamed Rows.followChecksRow.func = some 3 := by kernel_rfl
end Go.Proofs.YtnlijejfagjbeaaGreatDoor.Checks
