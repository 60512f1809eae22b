/- Seat 5: FollowTrails: the row's closed facts. Conditions: none but those that each theorem names. -/
import Derived.Test.YtkbdcmehffmfpaaGreatDoorCards
import Derived.JoinedCond
namespace Go.Proofs.YtkbdcmehffmfpaaGreatDoor.Trails
set_option maxRecDepth 100000
open Go
theorem facts:joinedFacts Tryz.pinned.checked.prog 4 Tryz.f4 (OpenSpec.ofChange Rows.followTrailsSpec).bare Rows.followTrailsRow = true:=by kernel_rfl
theorem named:Tryz.pinned.checked.prog.funcNamed Rows.followTrailsRow.func = some 4:=by kernel_rfl
end Go.Proofs.YtkbdcmehffmfpaaGreatDoor.Trails
