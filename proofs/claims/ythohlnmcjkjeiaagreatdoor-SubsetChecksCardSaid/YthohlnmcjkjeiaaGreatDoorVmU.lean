/- Seat 8, subset: the closed run of layer 11: its text, parsed. Conditions: none but those that each theorem names. -/
import Derived.Test.YthohlnmcjkjeiaaGreatDoorVmN
namespace Go.Proofs.YthohlnmcjkjeiaaGreatDoor
set_option maxRecDepth 1000000
open Go Go.Vm
def wdA:List V:=[(.str [114,117,108,101,32,34,97,34,32,61,62,32,116])]
def wpV:V:=(.tup [(.agg [.snil,.snil,(.sl 26 [(.agg [(.int .i64 (0)),(.bool false),.snil,(.int .i64 (3)),(.int .i64 (5)),(.int .u64 (0)),(.int .u64 (0)),(.int .u64 (0)),(.int .u64 (0)),(.str [97]),(.int .i64 (0)),(.int .i64 (0)),.snil,(.bool false),(.int .i64 (0)),(.int .i64 (0)),(.int .u64 (0)),(.int .u64 (0)),(.int .u64 (0)),(.int .u64 (0)),(.str []),(.int .i64 (0)),(.int .i64 (0)),.snil,(.str [116]),.snil])] .no)]),.nili])
def wrV:V:=(.sl 21 [(.agg [(.int .i64 (2)),(.int .i64 (0)),(.int .u64 (0)),(.int .u64 (8589934592)),(.int .u64 (0)),(.int .u64 (0)),(.str []),(.int .i64 (0)),(.int .i64 (0)),.snil,(.bool false),(.int .i64 (0)),(.int .i64 (0)),(.int .u64 (0)),(.int .u64 (0)),(.int .u64 (0)),(.int .u64 (0)),(.str []),(.int .i64 (0)),(.int .i64 (0)),.snil])] .no)
def hooksW1:Hooks:=[(66,wdA,wpV)]
theorem zjE (n:Nat):zk Tryz.prog { g:=glw,hk:=hkOf [],uq:=uqw } (n+60) 66 wdA ⟨[],[]⟩=some (.ret wpV,⟨[],[]⟩):=by kernel_rfl
end Go.Proofs.YthohlnmcjkjeiaaGreatDoor
