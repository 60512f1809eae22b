/- Seat 8: the closed run that the laws end in, in parts: its text, parsed. Conditions: none but those named. -/
import Derived.Test.YthohlnmcjkjeiaaGreatDoorVmF
namespace Go.Proofs.YthohlnmcjkjeiaaGreatDoor
open Go.Proofs.Tryz
set_option maxRecDepth 1000000
open Go Go.Vm
def ks:bO:=[6,3,7,8,9,10,11,1,12,2,13,14,15,0,16,17]
def fj:Nat->Nat->cj:=HQ 396 ks [(4,A5)]
end Go.Proofs.YthohlnmcjkjeiaaGreatDoor
