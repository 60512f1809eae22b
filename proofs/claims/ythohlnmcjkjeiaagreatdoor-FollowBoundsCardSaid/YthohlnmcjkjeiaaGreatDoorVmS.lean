/- Seat 8: FollowBounds' text, read. Conditions: none but those named. -/
import Derived.Test.YthohlnmcjkjeiaaGreatDoorVmR
set_option linter.defProp false
namespace Go.Proofs.YthohlnmcjkjeiaaGreatDoor
open Go.Proofs.Tryz
set_option maxRecDepth 1000000
open Go Go.Vm
def znB(n:Nat):qt prog { g:=Bp,hk:=pQ A8,uq:=gE } (n+110) 21 LB ⟨[],[]⟩=some (.ret TF,⟨[],[]⟩):=by kernel_rfl
end Go.Proofs.YthohlnmcjkjeiaaGreatDoor
