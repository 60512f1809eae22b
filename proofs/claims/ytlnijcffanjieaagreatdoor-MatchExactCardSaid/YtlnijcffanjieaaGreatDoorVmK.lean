/- Trees of bodies, as they are told of the program's code. Conditions: none but those named. -/
import Derived.Test.YtlnijcffanjieaaGreatDoorProg
import Derived.KernelRfl
import Derived.Test.YtlnijcffanjieaaGreatDoorVmF
set_option linter.defProp false
namespace Go.Proofs.YtlnijcffanjieaaGreatDoor
open Go.Proofs.Tryz
set_option maxRecDepth 100000
open Go Go.Vm Go.Vm.Sx
def Xh(a n:Nat):List (Nat×GS):=(List.range' a n).map λi=>(i,GS.drop)
def gH:List CK:=[(.int .i64),(.int .i64),(.int .u64),(.int .u64),(.int .u64),(.int .u64),.str,(.int .i64),(.int .i64),(.sl 10)]
def hO(i:Nat)(b:Bool):List C:=[.v i b,.v (i+1) b,.v (i+2) b,.v (i+3) b,.v (i+4) b,.v (i+5) b,.v (i+6) b,.v (i+7) b,.v (i+8) b,.v (i+9) b]
def abv:List (Nat×JS):=[]
def I_:Tree :=
 (.iN 0 gH
 (.bO (.sc (.one (.b (.and (.and (.and (.cmp .eql (.var 2) (.lit (0))) (.nZ .eql (.var 7) (.lit []))) (.or (.cmp .eql (.var 1) (.lit (2))) (.and (.cmp .eql (.var 3) (.lit (0))) (.and (.cmp .eql (.var 4) (.lit (0))) (.and (.cmp .eql (.var 5) (.lit (0))) (.cmp .eql (.var 6) (.lit (0)))))))) (.or (.cmp .eql (.var 1) (.lit (7))) (.and (.cmp .eql (.var 8) (.lit (0))) (.cmp .eql (.var 9) (.lit (0)))))))))
 (.out [(.v 11 false)])))
def abw:List (Nat×JS):=[]
def Ja:Tree :=
 (.iN 0 gH
 (.ite (.cmp .eql (.var 1) (.lit (1)))
   (.bO (.sc (.one (.b (.cmp .eql (.len (.var 10)) (.lit (0))))))
   (.out [(.v 11 false)]))
   (.ite (.cmp .eql (.var 1) (.lit (2)))
     (.bO (.sc (.one (.b (.cmp .eql (.len (.var 10)) (.lit (0))))))
     (.out [(.v 11 false)]))
     (.ite (.cmp .eql (.var 1) (.lit (5)))
       (.bO (.sc (.one (.b (.cmp .gtr (.len (.var 10)) (.lit (1))))))
       (.out [(.v 11 false)]))
       (.ite (.cmp .eql (.var 1) (.lit (6)))
         (.bO (.sc (.one (.b (.cmp .gtr (.len (.var 10)) (.lit (1))))))
         (.out [(.v 11 false)]))
         (.ite (.cmp .eql (.var 1) (.lit (7)))
           (.bO (.sc (.one (.b (.and (.cmp .eql (.len (.var 10)) (.lit (1))) (.or (.or (.and (.cmp .eql (.var 8) (.lit (0))) (.cmp .eql (.var 9) (.lit (-1)))) (.and (.cmp .eql (.var 8) (.lit (1))) (.cmp .eql (.var 9) (.lit (-1))))) (.and (.cmp .eql (.var 8) (.lit (0))) (.cmp .eql (.var 9) (.lit (1)))))))))
           (.out [(.v 11 false)]))
           (.bO (.sc (.one (.b (.lit false))))
           (.out [(.v 11 false)]))))))))
def abx:List (Nat×JS):=[(122,⟨[(10,.drop),(21,.drop),(22,.drop),(25,.drop),(30,.drop),(45,(.one (.int .i64)))]++Xh 46 11,[(0,[(some (.int .i64))]),(1,[(some (.int .i64))])]⟩)]
def BR:Tree :=
 (.ite (.cmp .lss (.var 18) (.len (.var 15)))
             (.elem (.var 15) (.var 18)
             (.iN 21 gH
             (.call 41 [(.d (.agg (hO 22 true))),(.d (.one (.i .i64 (.bin .add .i64 (.var 1) (.lit (1)))))),(.p 0 0),(.p 1 0)] [([(.v 19 false)],3),([(.v 20 false)],3)] [(.int .i64),(.int .i64)]
             (.gG 32 .bool
             (.ite (.not (.var 32))
               (.p9
                (.bO (.sc (.one (.b (.lit false))))
                (.out [(.v 35 false),(.v 33 false),(.v 34 false)])))
               (.out [(.i .i64 (.bin .add .i64 (.var 18) (.lit (1)))),(.v 33 false),(.v 34 false)]))))))
             (.p9
              (.bO (.sc (.one (.b (.lit true))))
              (.out [(.v 21 false),(.v 19 false),(.v 20 false)]))))
def Jb:Tree :=
 (.gG 4 (.int .i64)
 (.gG 5 (.int .i64)
 (.iN 0 gH
 (.gG 1 (.int .i64)
 (.ite (.not (.or (.cmp .gtr (.bin .add .i64 (.var 4) (.lit (1))) (.lit (65536))) (.cmp .gtr (.var 1) (.lit (4096)))))
   (.call 63 [(.d (.agg (hO 6 true)))] [] []
   (.gG 16 .bool
   (.ite (.var 16)
     (.call 64 [(.d (.agg (hO 6 true)))] [] []
     (.gG 17 .bool
     (.ite (.not (.var 17))
       (.bO (.sc (.one (.b (.lit false))))
       (.out [(.v 18 false),(.i .i64 (.bin .add .i64 (.var 4) (.lit (1)))),(.v 5 false)]))
       (.ite (.cmp .eql (.var 6) (.lit (2)))
         (.loop [(.i .i64 (.lit (0))),(.i .i64 (.bin .add .i64 (.var 4) (.lit (1)))),(.i .i64 (.bin .add .i64 (.var 5) (.lit (1))))] BR)
         (.loop [(.i .i64 (.lit (0))),(.i .i64 (.bin .add .i64 (.var 4) (.lit (1)))),(.v 5 false)] BR)))))
     (.bO (.sc (.one (.b (.lit false))))
     (.out [(.v 17 false),(.i .i64 (.bin .add .i64 (.var 4) (.lit (1)))),(.v 5 false)])))))
   (.bO (.sc (.one (.b (.lit false))))
   (.out [(.v 16 false),(.i .i64 (.bin .add .i64 (.var 4) (.lit (1)))),(.v 5 false)])))))))
def aby:List (Nat×JS):=[]
def Jc:Tree :=
 (.iN 0 gH
 (.call 41 [(.d (.agg (hO 1 true))),(.d (.one (.i .i64 (.lit (1))))),(.p 0 0),(.p 1 0)] [([(.i .i64 (.lit (0)))],3),([(.i .i64 (.lit (0)))],3)] [(.int .i64),(.int .i64)]
 (.gG 11 .bool
 (.bO (.sc (.one (.v 11 false)))
 (.out [(.v 14 false)])))))
def abz:List (Nat×JS):=[(122,⟨[(5,(.one (.int .i64))),(6,(.one (.int .i64)))]++Xh 9 21,[]⟩)]
def Eh:Tree :=
 (.ite (.and (.cmp .lss (.var 13) (.len (.var 11))) (.cmp .lss (.var 12) (.lit (1048576))))
       (.elem (.var 11) (.var 13)
       (.iN 14 gH
       (.call 10 [(.d (.agg (hO 15 false))),(.d (.one (.i .i64 (.bin .add .i64 (.var 1) (.lit (1))))))] [] []
       (.gG 25 (.int .i64)
       (.out [(.i .i64 (.bin .add .i64 (.var 12) (.var 25))),(.i .i64 (.bin .add .i64 (.var 13) (.lit (1))))])))))
       (.p9
        (.bO (.sc (.one (.v 12 true)))
        (.out [(.v 14 false)]))))
def Jd:Tree :=
 (.iN 0 gH
 (.gG 1 (.int .i64)
 (.ite (.cmp .gtr (.var 1) (.lit (5000)))
   (.bO (.sc (.one (.i .i64 (.lit (1048576)))))
   (.out [(.v 12 false)]))
   (.loop [(.i .i64 (.lit (1))),(.i .i64 (.lit (0)))] Eh))))
def abA:List (Nat×JS):=[]
def Je:Tree :=
 (.iN 0 [(.int .u64),(.int .u64),(.int .u64),(.int .u64)]
 (.gG 1 (.int .u8)
 (.ite (.cmp .eql (.bin .quo .u8 (.var 1) (.lit (64))) (.lit (0)))
   (.iM (.cmp .geq (.bin .rem .u8 (.var 1) (.lit (64))) (.lit (0)))
   (.bO (.sc (.one (.b (.cmp .eql (.bin .and .u64 (.bin .shr .u64 (.var 2) (.bin .rem .u8 (.var 1) (.lit (64)))) (.lit (1))) (.lit (1))))))
   (.out [(.v 6 false)])))
   (.ite (.cmp .eql (.bin .quo .u8 (.var 1) (.lit (64))) (.lit (1)))
     (.iM (.cmp .geq (.bin .rem .u8 (.var 1) (.lit (64))) (.lit (0)))
     (.bO (.sc (.one (.b (.cmp .eql (.bin .and .u64 (.bin .shr .u64 (.var 3) (.bin .rem .u8 (.var 1) (.lit (64)))) (.lit (1))) (.lit (1))))))
     (.out [(.v 6 false)])))
     (.ite (.cmp .eql (.bin .quo .u8 (.var 1) (.lit (64))) (.lit (2)))
       (.iM (.cmp .geq (.bin .rem .u8 (.var 1) (.lit (64))) (.lit (0)))
       (.bO (.sc (.one (.b (.cmp .eql (.bin .and .u64 (.bin .shr .u64 (.var 4) (.bin .rem .u8 (.var 1) (.lit (64)))) (.lit (1))) (.lit (1))))))
       (.out [(.v 6 false)])))
       (.ite (.cmp .eql (.bin .quo .u8 (.var 1) (.lit (64))) (.lit (3)))
         (.iM (.cmp .geq (.bin .rem .u8 (.var 1) (.lit (64))) (.lit (0)))
         (.bO (.sc (.one (.b (.cmp .eql (.bin .and .u64 (.bin .shr .u64 (.var 5) (.bin .rem .u8 (.var 1) (.lit (64)))) (.lit (1))) (.lit (1))))))
         (.out [(.v 6 false)])))
         (.iM (.lit false)
         (.out []))))))))
def T6:List (Nat×JS):=[(26,⟨[(5,.drop),(6,(.one (.int .i64)))]++Xh 7 11,[(0,[(some (.int .u64)),(some (.int .u64)),(some (.int .u64)),(some (.int .u64))])]⟩)]
def oC:Tree :=
 (.ite (.cmp .lss (.var 10) (.lit (4)))
     (.ite (.cmp .eql (.var 10) (.lit (0)))
       (.out [(.i .i64 (.bin .add .i64 (.var 10) (.lit (1)))),(.i .u64 (.bin .or .u64 (.var 11) (.var 6))),(.v 12 false),(.v 13 false),(.v 14 false)])
       (.ite (.cmp .eql (.var 10) (.lit (1)))
         (.out [(.i .i64 (.bin .add .i64 (.var 10) (.lit (1)))),(.v 11 false),(.i .u64 (.bin .or .u64 (.var 12) (.var 7))),(.v 13 false),(.v 14 false)])
         (.ite (.cmp .eql (.var 10) (.lit (2)))
           (.out [(.i .i64 (.bin .add .i64 (.var 10) (.lit (1)))),(.v 11 false),(.v 12 false),(.i .u64 (.bin .or .u64 (.var 13) (.var 8))),(.v 14 false)])
           (.ite (.cmp .eql (.var 10) (.lit (3)))
             (.out [(.i .i64 (.bin .add .i64 (.var 10) (.lit (1)))),(.v 11 false),(.v 12 false),(.v 13 false),(.i .u64 (.bin .or .u64 (.var 14) (.var 9)))])
             (.iM (.lit false)
             (.out []))))))
     (.p9
      (.bO (.sc (.agg [(.v 11 true),(.v 12 true),(.v 13 true),(.v 14 true)]))
      (.out [(.v 15 false)]))))
def FA:Tree :=
 (.iN 0 [(.int .u64),(.int .u64),(.int .u64),(.int .u64)]
 (.iN 1 [(.int .u64),(.int .u64),(.int .u64),(.int .u64)]
 (.loop [(.i .i64 (.lit (0))),(.v 2 true),(.v 3 true),(.v 4 true),(.v 5 true)] oC)))
def abB:List (Nat×JS):=[(58,⟨[(5,(.one (.int .i64)))]++Xh 11 15,[]⟩)]
def Ei:Tree :=
 (.ite (.cmp .lss (.var 2) (.len (.var 0)))
       (.elem (.var 0) (.var 2)
       (.gG 3 (.int .i64)
       (.elem (.var 1) (.var 2)
       (.gG 4 (.int .i64)
       (.ite (.not (.cmp .eql (.var 3) (.var 4)))
         (.p9
          (.bO (.sc (.one (.b (.lit false))))
          (.out [(.v 5 false)])))
         (.out [(.i .i64 (.bin .add .i64 (.var 2) (.lit (1))))]))))))
       (.p9
        (.bO (.sc (.one (.b (.lit true))))
        (.out [(.v 3 false)]))))
def Jf:Tree :=
 (.gG 0 (.sl 1)
 (.gG 1 (.sl 1)
 (.ite (.not (.cmp .eql (.len (.var 0)) (.len (.var 1))))
   (.bO (.sc (.one (.b (.lit false))))
   (.out [(.v 2 false)]))
   (.loop [(.i .i64 (.lit (0)))] Ei))))
def abC:List (Nat×JS):=[]
def Jg:Tree :=
 (.gG 0 (.sl 1)
 (.ite (.and (.cmp .gtr (.len (.var 0)) (.lit (40))) (.cmp .leq (.len (.var 0)) (.lit (65536))))
   (.iM (.and (.cmp .leq (.lit (0)) (.lit (0))) (.and (.cmp .leq (.lit (0)) (.lit (40))) (.cmp .leq (.lit (40)) (.len (.var 0)))))
   (.bO (.ZW 0 (.lit (0)) (.lit (40)))
   (.bO (.sc (.one (.v 1 false)))
   (.out [(.v 2 false)]))))
   (.bO (.sc (.one (.v 0 true)))
   (.out [(.v 1 false)]))))
def Gm:vv prog abv 63=some I_:=by kernel_rfl
def Gn:vv prog abw 64=some Ja:=by kernel_rfl
def Gp:vv prog abx 41=some Jb:=by kernel_rfl
def Gq:vv prog aby 11=some Jc:=by kernel_rfl
def Gr:vv prog abz 10=some Jd:=by kernel_rfl
def Gs:vv prog abA 17=some Je:=by kernel_rfl
def Ej:vv prog T6 226=some FA:=by kernel_rfl
def Gt:vv prog abB 21=some Jf:=by kernel_rfl
def Gu:vv prog abC 13=some Jg:=by kernel_rfl
end Go.Proofs.YtlnijcffanjieaaGreatDoor
