/- Seat 7: what its laws stand on: the listed errors, the primitive, the witness's world. Conditions: none but those that each theorem names. -/
import Derived.Test.YtlnijcffanjieaaGreatDoorCards
import Derived.Test.YtlnijcffanjieaaGreatDoorTie
import Derived.LaidMore
import Derived.Deep.DeepHandedRow
import Derived.Deep.DeepWitnessRowRef
import Derived.SevenTiedAt
import Derived.Test.YtlnijcffanjieaaGreatDoorVmD
import Derived.Test.YtlnijcffanjieaaGreatDoorVmK
namespace Go.Proofs.YtlnijcffanjieaaGreatDoor
set_option maxRecDepth 100000
open Go Go.Vm Go.RowKit
theorem own:ownKnob Tryz.prog.godebug=none:=by kernel_rfl
theorem mixed:Tryz.prog.follows .mixedOrders=true:=by kernel_rfl
theorem numOk:y4 Tryz.prog:=zlp (by kernel_rfl)
theorem primOk:wN Tryz.prog:=zkg (k:=251) (fk:=Tryz.f251) (by kernel_rfl) Tryz.func251 (by kernel_rfl) (by kernel_rfl) (by kernel_rfl)
theorem znT (u:TypeId) (h:Tryz.prog.typeName? 3 u=some "*errors.errorString"):u=373 :=
 typeName_ptr_named (nm:= "errors.errorString") (by rw [show "*"++ "errors.errorString"= "*errors.errorString" by decide];kernel_rfl) (by kernel_rfl) (by decide) u (by rw [show "*"++ "errors.errorString"= "*errors.errorString" by decide];exact h)
theorem laidOut:laidOutB Tryz.prog=true:=by kernel_rfl
end Go.Proofs.YtlnijcffanjieaaGreatDoor
