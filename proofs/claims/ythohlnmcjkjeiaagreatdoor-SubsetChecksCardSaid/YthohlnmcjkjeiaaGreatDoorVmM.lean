/- Seat 8: an expression, walked; Seat 8: rules, one behind the other: what Build comes to; Seat 8: whether rules may be, how great they are, out of the trees; and what follows from it. Conditions: none but those that each theorem names. -/
import Derived.Test.YthohlnmcjkjeiaaGreatDoorVmL
namespace Go.Proofs.YthohlnmcjkjeiaaGreatDoor
set_option maxRecDepth 100000
open Go Go.Vm
variable {gl:Gl}
end Go.Proofs.YthohlnmcjkjeiaaGreatDoor
namespace Go.Proofs.YthohlnmcjkjeiaaGreatDoor
set_option maxRecDepth 100000
open Go Go.Vm
variable {gl:Gl}
theorem zis {P:Program} {n:Nat} {f:FuncId} {args:List V} {v:V} {H:Hp} (h:gl.hk f args=some v):zk P gl (n+1) f args H=some (.ret v,H):=by
 obtain ⟨b,e⟩:=H;simp only [zk,h]
end Go.Proofs.YthohlnmcjkjeiaaGreatDoor
namespace Go.Proofs.YthohlnmcjkjeiaaGreatDoor
set_option maxRecDepth 10000
open Go Go.Vm Go.Vm.Sx
variable {gl:Gl} [NoU gl]
end Go.Proofs.YthohlnmcjkjeiaaGreatDoor
namespace Go.Proofs.YthohlnmcjkjeiaaGreatDoor
set_option maxRecDepth 10000
open Go Go.Vm Go.Vm.Sx
variable {gl:Gl} [NoU gl]
theorem lent63:jB Tryz.prog Tryz.f63.params.toList=some []:=by kernel_rfl
theorem lent64:jB Tryz.prog Tryz.f64.params.toList=some []:=by kernel_rfl
end Go.Proofs.YthohlnmcjkjeiaaGreatDoor
namespace Go.Proofs.YthohlnmcjkjeiaaGreatDoor
open Go Go.Vm Go.Vm.Sx
end Go.Proofs.YthohlnmcjkjeiaaGreatDoor
namespace Go.Proofs.YthohlnmcjkjeiaaGreatDoor
set_option maxRecDepth 10000
open Go Go.Vm Go.Vm.Sx
variable {r:Int}
end Go.Proofs.YthohlnmcjkjeiaaGreatDoor
namespace Go.Proofs.YthohlnmcjkjeiaaGreatDoor
set_option maxRecDepth 100000
open Go Go.Vm
variable {gl:Gl}
variable {H:Hp} {F N:List V} {m:Mk}
end Go.Proofs.YthohlnmcjkjeiaaGreatDoor
namespace Go.Proofs.YthohlnmcjkjeiaaGreatDoor
set_option maxRecDepth 100000
open Go Go.Vm
variable {gl:Gl}
end Go.Proofs.YthohlnmcjkjeiaaGreatDoor
namespace Go.Proofs.YthohlnmcjkjeiaaGreatDoor
set_option maxRecDepth 100000
open Go Go.Vm
variable {gl:Gl}
end Go.Proofs.YthohlnmcjkjeiaaGreatDoor
namespace Go.Proofs.YthohlnmcjkjeiaaGreatDoor
set_option maxRecDepth 100000
open Go Go.Vm
variable {gl:Gl}
end Go.Proofs.YthohlnmcjkjeiaaGreatDoor
