/- Seat 7: the closed run that the laws end in: its text, read. Conditions: none but those named. -/
import Derived.Test.YtlnijcffanjieaaGreatDoorVmO
set_option linter.defProp false
namespace Go.Proofs.YtlnijcffanjieaaGreatDoor
open Go.Proofs.Tryz
set_option maxRecDepth 1000000
open Go Go.Vm
def zoc(n:Nat):zl prog { g:=AD,hk:=uF x_,uq:=uR } (n+60) 42 XN ⟨[],[]⟩=some (.ret rdV,⟨[],[]⟩):=by kernel_rfl
end Go.Proofs.YtlnijcffanjieaaGreatDoor
