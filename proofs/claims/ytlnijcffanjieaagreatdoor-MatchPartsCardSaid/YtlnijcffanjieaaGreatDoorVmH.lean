/- Seat 7: MatchParts: the row's closed facts. Conditions: none but those that each theorem names. -/
import Derived.Test.YtlnijcffanjieaaGreatDoorCards
import Derived.JoinedCond
namespace Go.Proofs.YtlnijcffanjieaaGreatDoor.Parts
set_option maxRecDepth 100000
open Go
theorem facts:joinedFacts Tryz.pinned.checked.prog 3 Tryz.f3 (OpenSpec.ofChange Rows.matchPartsSpec).bare Rows.matchPartsRow=true:=by kernel_rfl
theorem named:Tryz.pinned.checked.prog.funcNamed Rows.matchPartsRow.func=some 3:=by kernel_rfl
end Go.Proofs.YtlnijcffanjieaaGreatDoor.Parts
