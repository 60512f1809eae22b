/- Seat 5: FollowApart: the row's closed facts. Conditions: none but those that each theorem names. -/
import Derived.Test.YtkbdcmehffmfpaaGreatDoorCards
import Derived.JoinedCond
namespace Go.Proofs.YtkbdcmehffmfpaaGreatDoor.Apart
set_option maxRecDepth 100000
open Go
theorem facts:joinedFacts Tryz.pinned.checked.prog 3 Tryz.f3 (OpenSpec.ofChange Rows.followApartSpec).bare Rows.followApartRow=true:=by kernel_rfl
theorem named:Tryz.pinned.checked.prog.funcNamed Rows.followApartRow.func=some 3:=by kernel_rfl
end Go.Proofs.YtkbdcmehffmfpaaGreatDoor.Apart
