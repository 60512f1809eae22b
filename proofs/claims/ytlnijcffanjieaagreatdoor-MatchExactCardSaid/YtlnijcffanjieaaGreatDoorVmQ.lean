/- Seat 7: the closed run that the laws end in, with what it reads known. Conditions: none but those named. -/
import Derived.Test.YtlnijcffanjieaaGreatDoorVmP
set_option linter.defProp false
namespace Go.Proofs.YtlnijcffanjieaaGreatDoor
open Go.Proofs.Tryz
set_option maxRecDepth 1000000
open Go Go.Vm
def zmc(n:Nat):zl prog { g:=AD,hk:=uF (EO++x_),uq:=uR } (n+60) 12 [] ⟨[],[]⟩=some (.ret (.bool true),⟨[],[]⟩):=by kernel_rfl
end Go.Proofs.YtlnijcffanjieaaGreatDoor
