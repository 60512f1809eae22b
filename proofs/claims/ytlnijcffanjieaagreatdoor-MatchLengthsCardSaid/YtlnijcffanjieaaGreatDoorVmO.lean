/- Seat 7: the closed run that the laws end in: its text, read. Conditions: none but those that each theorem names. -/
import Derived.Test.YtlnijcffanjieaaGreatDoorVmN
namespace Go.Proofs.YtlnijcffanjieaaGreatDoor
set_option maxRecDepth 1000000
open Go Go.Vm
theorem zmJ (n:Nat):zx Tryz.prog { g:=glw,hk:=hkOf hooks1,uq:=uqw } (n+60) 42 rdA ⟨[],[]⟩=some (.ret rdV,⟨[],[]⟩):=by kernel_rfl
end Go.Proofs.YtlnijcffanjieaaGreatDoor
