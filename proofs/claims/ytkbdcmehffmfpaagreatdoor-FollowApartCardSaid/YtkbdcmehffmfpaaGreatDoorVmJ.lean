/- Seat 5: the closed run that the laws end in, in parts: its text, parsed. Conditions: none but those that each theorem names. -/
import Derived.Test.YtkbdcmehffmfpaaGreatDoorVmE
import Derived.Test.YtkbdcmehffmfpaaGreatDoorVmH
namespace Go.Proofs.YtkbdcmehffmfpaaGreatDoor
set_option maxRecDepth 1000000
open Go Go.Vm
def ks:List Nat:=[4,2,5,6,7,8,9,1,10,11,12,13,14,0,15,16]
def glw:Nat→Nat→Option V:=glT 290 ks [(3,bruT)]
def rdA:List V:=[(.str [114,117,108,101,32,34,97,34,63,32,61,62,32,120,10,114,117,108,101,32,34,98,34,32,47,32,34,99,34,32,61,62,32,121])]
def psV:V:=(.tup [(.agg [.snil,.snil,(.sl 26 [(.agg [(.int .i64 (0)),(.bool false),.snil,(.int .i64 (7)),(.int .i64 (8)),(.int .u64 (0)),(.int .u64 (0)),(.int .u64 (0)),(.int .u64 (0)),(.str []),(.int .i64 (0)),(.int .i64 (1)),(.sl 10 [(.agg [(.int .i64 (3)),(.int .i64 (5)),(.int .u64 (0)),(.int .u64 (0)),(.int .u64 (0)),(.int .u64 (0)),(.str [97]),(.int .i64 (0)),(.int .i64 (0)),.snil])] .no),(.bool false),(.int .i64 (0)),(.int .i64 (0)),(.int .u64 (0)),(.int .u64 (0)),(.int .u64 (0)),(.int .u64 (0)),(.str []),(.int .i64 (0)),(.int .i64 (0)),.snil,(.str [120]),.snil]),(.agg [(.int .i64 (15)),(.bool false),.snil,(.int .i64 (3)),(.int .i64 (20)),(.int .u64 (0)),(.int .u64 (0)),(.int .u64 (0)),(.int .u64 (0)),(.str [98]),(.int .i64 (0)),(.int .i64 (0)),.snil,(.bool true),(.int .i64 (3)),(.int .i64 (26)),(.int .u64 (0)),(.int .u64 (0)),(.int .u64 (0)),(.int .u64 (0)),(.str [99]),(.int .i64 (0)),(.int .i64 (0)),.snil,(.str [121]),.snil])] .no)]),.nili])
def rdV:V:=(.sl 21 [(.agg [(.int .i64 (7)),(.int .i64 (0)),(.int .u64 (0)),(.int .u64 (0)),(.int .u64 (0)),(.int .u64 (0)),(.str []),(.int .i64 (0)),(.int .i64 (1)),(.sl 10 [(.agg [(.int .i64 (2)),(.int .i64 (0)),(.int .u64 (0)),(.int .u64 (8589934592)),(.int .u64 (0)),(.int .u64 (0)),(.str []),(.int .i64 (0)),(.int .i64 (0)),.snil])] .no),(.bool false),(.int .i64 (0)),(.int .i64 (0)),(.int .u64 (0)),(.int .u64 (0)),(.int .u64 (0)),(.int .u64 (0)),(.str []),(.int .i64 (0)),(.int .i64 (0)),.snil]),(.agg [(.int .i64 (2)),(.int .i64 (0)),(.int .u64 (0)),(.int .u64 (17179869184)),(.int .u64 (0)),(.int .u64 (0)),(.str []),(.int .i64 (0)),(.int .i64 (0)),.snil,(.bool true),(.int .i64 (2)),(.int .i64 (0)),(.int .u64 (0)),(.int .u64 (34359738368)),(.int .u64 (0)),(.int .u64 (0)),(.str []),(.int .i64 (0)),(.int .i64 (0)),.snil])] .no)
def hooks1:Hooks:=[(24,rdA,psV)]
def hooks2:Hooks:=[(12,rdA,rdV)]
theorem parse_run (n:Nat):callA Tryz.prog { g:=glw,hk:=hkOf [],uq:=uqw } (n+60) 24 rdA ⟨[],[]⟩=some (.ret psV,⟨[],[]⟩):=by kernel_rfl
end Go.Proofs.YtkbdcmehffmfpaaGreatDoor
