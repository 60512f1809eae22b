/- Seat 8: the closed run that the laws end in: its text, read. Conditions: none but those named. -/
import Derived.Test.YthohlnmcjkjeiaaGreatDoorVmN
set_option linter.defProp false
namespace Go.Proofs.YthohlnmcjkjeiaaGreatDoor
open Go.Proofs.Tryz
set_option maxRecDepth 1000000
open Go Go.Vm
def zpA(n:Nat):qt prog { g:=Bp,hk:=pQ tR,uq:=gE } (n+60) 21 W5 ⟨[],[]⟩=some (.ret rdV,⟨[],[]⟩):=by kernel_rfl
end Go.Proofs.YthohlnmcjkjeiaaGreatDoor
