/- Seat 7: the closed run that the laws end in, with what it reads known. Conditions: none but those that each theorem names. -/
import Derived.Test.YtlnijcffanjieaaGreatDoorVmO
namespace Go.Proofs.YtlnijcffanjieaaGreatDoor
set_option maxRecDepth 1000000
open Go Go.Vm
theorem zkQ (n:Nat):zx Tryz.prog { g:=glw,hk:=hkOf (hooks2++hooks1),uq:=uqw } (n+60) 12 [] ⟨[],[]⟩=some (.ret (.bool true),⟨[],[]⟩):=by kernel_rfl
end Go.Proofs.YtlnijcffanjieaaGreatDoor
