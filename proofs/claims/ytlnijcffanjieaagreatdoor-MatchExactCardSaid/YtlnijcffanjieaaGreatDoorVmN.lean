/- Seat 7: what its laws stand on: the listed errors, the primitive, the witness's world. Conditions: none but those named. -/
import Derived.Test.YtlnijcffanjieaaGreatDoorCards
import Derived.Test.YtlnijcffanjieaaGreatDoorTie
import Derived.LaidMore
import Derived.Deep.DeepHandedRow
import Derived.Deep.DeepWitnessRowRef
import Derived.SevenTiedAt
import Derived.Test.YtlnijcffanjieaaGreatDoorVmJ
set_option linter.defProp false
namespace Go.Proofs.YtlnijcffanjieaaGreatDoor
open Go.Proofs.Tryz
set_option maxRecDepth 100000
open Go Go.Vm Go.RowKit
def own:ownKnob prog.godebug=none:=by kernel_rfl
def mixed:prog.follows .mixedOrders=true:=by kernel_rfl
def gT:yQ prog:=zmJ (by kernel_rfl)
def ff:wQ prog:=zlu (k:=251) (fk:=f251) (by kernel_rfl) func251 (by kernel_rfl) (by kernel_rfl) (by kernel_rfl)
def zpG(u:ai)(h:prog.typeName? 3 u=some "*errors.errorString"):u=373 :=
 typeName_ptr_named (nm:= "errors.errorString") (by rw[show "*"++ "errors.errorString"= "*errors.errorString" by decide];kernel_rfl) (by kernel_rfl) (by decide) u (by rw[show "*"++ "errors.errorString"= "*errors.errorString" by decide];exact h)
def laidOut:laidOutB prog=true:=by kernel_rfl
end Go.Proofs.YtlnijcffanjieaaGreatDoor
