/- Seat 8: what its laws stand on: the listed errors, the primitive, the witness's world. Conditions: none but those named. -/
import Derived.Test.YthohlnmcjkjeiaaGreatDoorCards
import Derived.Test.YthohlnmcjkjeiaaGreatDoorTie
import Derived.LaidMore
import Derived.Deep.DeepHandedRow
import Derived.Deep.DeepWitnessRowRef
import Derived.SevenTiedAt
import Derived.Test.YthohlnmcjkjeiaaGreatDoorVmF
namespace Go.Proofs.YthohlnmcjkjeiaaGreatDoor
open Go.Proofs.Tryz
set_option maxRecDepth 100000
open Go Go.Vm Go.RowKit
theorem own:ownKnob prog.godebug=none:=by kernel_rfl
theorem mixed:prog.follows .mixedOrders=true:=by kernel_rfl
theorem gK:yE prog:=zlq (by kernel_rfl)
theorem ff:wY prog:=zkg (k:=283) (fk:=f283) (by kernel_rfl) func283 (by kernel_rfl) (by kernel_rfl) (by kernel_rfl)
theorem znQ(u:aD)(h:prog.typeName? 3 u=some "*errors.errorString"):u=396 :=
 typeName_ptr_named (nm:= "errors.errorString") (by rw[show "*"++ "errors.errorString"= "*errors.errorString" by decide];kernel_rfl) (by kernel_rfl) (by decide) u (by rw[show "*"++ "errors.errorString"= "*errors.errorString" by decide];exact h)
theorem laidOut:laidOutB prog=true:=by kernel_rfl
end Go.Proofs.YthohlnmcjkjeiaaGreatDoor
