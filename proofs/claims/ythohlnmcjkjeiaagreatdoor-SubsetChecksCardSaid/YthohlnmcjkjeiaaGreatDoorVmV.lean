/- Seat 8, subset: the closed run of layer 11: what Build tells of its rule; that it may be. Conditions: none but those that each theorem names. -/
import Derived.Test.YthohlnmcjkjeiaaGreatDoorVmQ
import Derived.Test.YthohlnmcjkjeiaaGreatDoorVmU
namespace Go.Proofs.YthohlnmcjkjeiaaGreatDoor
set_option maxRecDepth 1000000
open Go Go.Vm
def wfV:V:=(.agg [(.sl 4 [(.agg [(.int .u64 (0)),(.int .u64 (8589934592)),(.int .u64 (0)),(.int .u64 (0))])] .no),(.sl 1 [(.int .i64 (0))] .no),(.sl 1 [(.sl 1 [(.int .i64 (0))] .no)] .no),(.sl 1 [(.sl 1 [(.int .i64 (1))] .no)] .no)])
def waV:V:=(.sl 1 [(.int .i64 (0))] .no)
def isW:Option (Out×Hp)->Bool
 | some (.ret (.tup [.agg [a,b,c,.sl 1 [.sr k 0 1 _cap] .no],.nili]),H)=>match nth H.blks k,wfV with
  | some (.cells cs _),.agg [a',b',c',.sl _ [.sl _ r _] _]=>sames [a,b,c] [a',b',c'] && sames cs r
  | _,_=>false
 | _=>false
theorem zjF (n:Nat):isW (zk Tryz.prog { g:=glw,hk:=hkOf [],uq:=uqw } (n+60) 14 [wrV] ⟨[],[]⟩)=true:=by kernel_rfl
theorem zjG (n:Nat):zk Tryz.prog { g:=glw,hk:=hkOf [],uq:=uqw } (n+60) 24 [wfV] ⟨[],[]⟩=some (.ret (.bool true),⟨[],[]⟩):=by kernel_rfl
def hooksK1:Hooks:=[(24,[wfV],.bool true)]
theorem zjH (n:Nat):zk Tryz.prog { g:=glw,hk:=hkOf hooksK1,uq:=uqw } (n+60) 72 [wfV,waV] ⟨[],[]⟩=some (.ret (.bool true),⟨[],[]⟩):=by kernel_rfl
end Go.Proofs.YthohlnmcjkjeiaaGreatDoor
