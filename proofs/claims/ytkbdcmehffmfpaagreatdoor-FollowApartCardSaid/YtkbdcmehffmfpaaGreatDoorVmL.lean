/- Seat 5: the closed run that the laws end in: its text, read. Conditions: none but those that each theorem names. -/
import Derived.Test.YtkbdcmehffmfpaaGreatDoorVmJ
namespace Go.Proofs.YtkbdcmehffmfpaaGreatDoor
set_option maxRecDepth 1000000
open Go Go.Vm
theorem read_run (n:Nat):callA Tryz.prog { g:=glw,hk:=hkOf hooks1,uq:=uqw } (n+60) 12 rdA ⟨[],[]⟩=some (.ret rdV,⟨[],[]⟩):=by kernel_rfl
end Go.Proofs.YtkbdcmehffmfpaaGreatDoor
