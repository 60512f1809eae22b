/- Seat 8: what the walks stand on. Conditions: none but those that each theorem names. -/
import Derived.Test.YthohlnmcjkjeiaaGreatDoorProg
import Derived.KernelRfl
import Derived.Test.YthohlnmcjkjeiaaGreatDoorVmG
namespace Go.Proofs.YthohlnmcjkjeiaaGreatDoor
set_option maxRecDepth 100000
open Go Go.Vm
def uqw (e:TypeId):Bool:=Nat.beq e 115 || Nat.beq e 157 || Nat.beq e 117 || Nat.beq e (kb 205)
variable {gl:Gl}
end Go.Proofs.YthohlnmcjkjeiaaGreatDoor
