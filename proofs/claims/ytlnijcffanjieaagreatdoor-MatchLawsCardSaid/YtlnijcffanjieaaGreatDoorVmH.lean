/- Seat 7: MatchLaws: the row's closed facts. Conditions: none but those that each theorem names. -/
import Derived.Test.YtlnijcffanjieaaGreatDoorCards
import Derived.JoinedCond
namespace Go.Proofs.YtlnijcffanjieaaGreatDoor.Laws
set_option maxRecDepth 100000
open Go
theorem facts:joinedFacts Tryz.pinned.checked.prog 4 Tryz.f4 (OpenSpec.ofChange Rows.matchLawsSpec).bare Rows.matchLawsRow=true:=by kernel_rfl
theorem named:Tryz.pinned.checked.prog.funcNamed Rows.matchLawsRow.func=some 4:=by kernel_rfl
end Go.Proofs.YtlnijcffanjieaaGreatDoor.Laws
