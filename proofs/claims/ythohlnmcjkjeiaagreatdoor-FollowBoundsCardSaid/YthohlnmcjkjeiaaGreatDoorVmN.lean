/- Seat 8: the closed run that the laws end in, in parts: its text, parsed. Conditions: none but those named. -/
import Derived.Test.YthohlnmcjkjeiaaGreatDoorVmI
set_option linter.defProp false
namespace Go.Proofs.YthohlnmcjkjeiaaGreatDoor
open Go.Proofs.Tryz
set_option maxRecDepth 1000000
open Go Go.Vm
def ks:bR:=[6,3,7,8,9,10,11,1,12,2,13,14,15,0,16,17]
def Bp:Nat->Nat->cP:=GR 396 ks [(4,AN)]
def W5:aA:=[(.str [114,117,108,101,32,34,97,34,63,32,61,62,32,120,10,114,117,108,101,32,34,98,34,32,47,32,34,99,34,32,61,62,32,121])]
def psV:V:=(.bz [(.agg [.aJ,.aJ,(.sl 26 [(.agg [(.int .i64 (0)),(.bool false),.aJ,(.int .i64 (7)),(.int .i64 (8)),(.int .u64 (0)),(.int .u64 (0)),(.int .u64 (0)),(.int .u64 (0)),(.str []),(.int .i64 (0)),(.int .i64 (1)),(.sl 10 [(.agg [(.int .i64 (3)),(.int .i64 (5)),(.int .u64 (0)),(.int .u64 (0)),(.int .u64 (0)),(.int .u64 (0)),(.str [97]),(.int .i64 (0)),(.int .i64 (0)),.aJ])] .no),(.bool false),(.int .i64 (0)),(.int .i64 (0)),(.int .u64 (0)),(.int .u64 (0)),(.int .u64 (0)),(.int .u64 (0)),(.str []),(.int .i64 (0)),(.int .i64 (0)),.aJ,(.str [120]),.aJ]),(.agg [(.int .i64 (15)),(.bool false),.aJ,(.int .i64 (3)),(.int .i64 (20)),(.int .u64 (0)),(.int .u64 (0)),(.int .u64 (0)),(.int .u64 (0)),(.str [98]),(.int .i64 (0)),(.int .i64 (0)),.aJ,(.bool true),(.int .i64 (3)),(.int .i64 (26)),(.int .u64 (0)),(.int .u64 (0)),(.int .u64 (0)),(.int .u64 (0)),(.str [99]),(.int .i64 (0)),(.int .i64 (0)),.aJ,(.str [121]),.aJ])] .no)]),.cV])
def rdV:V:=(.sl 21 [(.agg [(.int .i64 (7)),(.int .i64 (0)),(.int .u64 (0)),(.int .u64 (0)),(.int .u64 (0)),(.int .u64 (0)),(.str []),(.int .i64 (0)),(.int .i64 (1)),(.sl 10 [(.agg [(.int .i64 (2)),(.int .i64 (0)),(.int .u64 (0)),(.int .u64 (8589934592)),(.int .u64 (0)),(.int .u64 (0)),(.str []),(.int .i64 (0)),(.int .i64 (0)),.aJ])] .no),(.bool false),(.int .i64 (0)),(.int .i64 (0)),(.int .u64 (0)),(.int .u64 (0)),(.int .u64 (0)),(.int .u64 (0)),(.str []),(.int .i64 (0)),(.int .i64 (0)),.aJ]),(.agg [(.int .i64 (2)),(.int .i64 (0)),(.int .u64 (0)),(.int .u64 (17179869184)),(.int .u64 (0)),(.int .u64 (0)),(.str []),(.int .i64 (0)),(.int .i64 (0)),.aJ,(.bool true),(.int .i64 (2)),(.int .i64 (0)),(.int .u64 (0)),(.int .u64 (34359738368)),(.int .u64 (0)),(.int .u64 (0)),(.str []),(.int .i64 (0)),(.int .i64 (0)),.aJ])] .no)
def tR:so:=[(66,W5,psV)]
def Dj:so:=[(21,W5,rdV)]
def znt(n:Nat):qt prog { g:=Bp,hk:=pQ [],uq:=gE } (n+60) 66 W5 ⟨[],[]⟩=some (.ret psV,⟨[],[]⟩):=by kernel_rfl
end Go.Proofs.YthohlnmcjkjeiaaGreatDoor
