/- Seat 8: the closed run that the laws end in, with what it reads known. Conditions: none but those named. -/
import Derived.Test.YthohlnmcjkjeiaaGreatDoorVmO
set_option linter.defProp false
namespace Go.Proofs.YthohlnmcjkjeiaaGreatDoor
open Go.Proofs.Tryz
set_option maxRecDepth 1000000
open Go Go.Vm
def znu(n:Nat):qt prog { g:=Bp,hk:=pQ (Dj++tR),uq:=gE } (n+60) 20 [] ⟨[],[]⟩=some (.ret (.bool true),⟨[],[]⟩):=by kernel_rfl
end Go.Proofs.YthohlnmcjkjeiaaGreatDoor
