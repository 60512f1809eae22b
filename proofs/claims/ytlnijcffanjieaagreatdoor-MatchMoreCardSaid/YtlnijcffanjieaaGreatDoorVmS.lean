/- Seat 7: how many parts; small cores are taken. Conditions: none but those that each theorem names. -/
import Derived.Test.YtlnijcffanjieaaGreatDoorVmK
namespace Go.Proofs.YtlnijcffanjieaaGreatDoor
open Go Go.Vm Go.Vm.Sx
mutual
def nodes:E->Nat
 | .mk _ _ _ _ _ _ _ _ _ _ args=>1+nodesF args
def nodesF:List E->Nat
 | []=>0
 | a::l=>nodes a+nodesF l
end
end Go.Proofs.YtlnijcffanjieaaGreatDoor
