/- Seat 8: the closed run that the laws end in, in parts: its text, parsed. Conditions: none but those that each theorem names. -/
import Derived.Test.YthohlnmcjkjeiaaGreatDoorVmI
namespace Go.Proofs.YthohlnmcjkjeiaaGreatDoor
set_option maxRecDepth 1000000
open Go Go.Vm
def ks:List Nat:=[6,3,7,8,9,10,11,1,12,2,13,14,15,0,16,17]
def glw:Nat->Nat->Option V:=glT 396 ks [(4,bruT)]
end Go.Proofs.YthohlnmcjkjeiaaGreatDoor
