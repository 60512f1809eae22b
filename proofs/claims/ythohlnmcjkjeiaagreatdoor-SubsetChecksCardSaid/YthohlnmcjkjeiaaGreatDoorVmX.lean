/- Seat 8, subset: the closed run of layer 11: its text, read. Conditions: none but those that each theorem names. -/
import Derived.Test.YthohlnmcjkjeiaaGreatDoorVmU
namespace Go.Proofs.YthohlnmcjkjeiaaGreatDoor
set_option maxRecDepth 1000000
open Go Go.Vm
theorem zl0 (n:Nat):zk Tryz.prog { g:=glw,hk:=hkOf hooksW1,uq:=uqw } (n+60) 45 wdA ⟨[],[]⟩=some (.ret wrV,⟨[],[]⟩):=by kernel_rfl
end Go.Proofs.YthohlnmcjkjeiaaGreatDoor
