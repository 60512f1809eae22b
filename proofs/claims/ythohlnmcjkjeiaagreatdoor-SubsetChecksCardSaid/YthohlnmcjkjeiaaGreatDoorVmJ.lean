/- Seat 8: what its laws stand on: the listed errors, the primitive, the witness's world. Conditions: none but those that each theorem names. -/
import Derived.Test.YthohlnmcjkjeiaaGreatDoorCards
import Derived.Test.YthohlnmcjkjeiaaGreatDoorTie
import Derived.LaidMore
import Derived.Deep.DeepHandedRow
import Derived.Deep.DeepWitnessRowRef
import Derived.SevenTiedAt
import Derived.Test.YthohlnmcjkjeiaaGreatDoorVmI
namespace Go.Proofs.YthohlnmcjkjeiaaGreatDoor
set_option maxRecDepth 100000
open Go Go.Vm Go.RowKit
theorem own:ownKnob Tryz.prog.godebug=none:=by kernel_rfl
theorem mixed:Tryz.prog.follows .mixedOrders=true:=by kernel_rfl
theorem numOk:vM Tryz.prog:=zms (by kernel_rfl)
theorem primOk:kz Tryz.prog:=zlb (k:=283) (fk:=Tryz.f283) (by kernel_rfl) Tryz.func283 (by kernel_rfl) (by kernel_rfl) (by kernel_rfl)
theorem zpf (u:TypeId) (h:Tryz.prog.typeName? 3 u=some "*errors.errorString"):u=396 :=
 typeName_ptr_named (nm:= "errors.errorString") (by rw [show "*"++ "errors.errorString"= "*errors.errorString" by decide];kernel_rfl) (by kernel_rfl) (by decide) u (by rw [show "*"++ "errors.errorString"= "*errors.errorString" by decide];exact h)
theorem laidOut:laidOutB Tryz.prog=true:=by kernel_rfl
end Go.Proofs.YthohlnmcjkjeiaaGreatDoor
