/- Seat 8: the closed run that the laws end in, in parts: its text, parsed. Conditions: none but those named. -/
import Derived.Test.YthohlnmcjkjeiaaGreatDoorVmF
namespace Go.Proofs.YthohlnmcjkjeiaaGreatDoor
open Go.Proofs.Tryz
set_option maxRecDepth 1000000
open Go Go.Vm
def ks:bL:=[6,3,7,8,9,10,11,1,12,2,13,14,15,0,16,17]
def mE:Nat->Nat->bY:=L9 396 ks [(4,BB)]
end Go.Proofs.YthohlnmcjkjeiaaGreatDoor
