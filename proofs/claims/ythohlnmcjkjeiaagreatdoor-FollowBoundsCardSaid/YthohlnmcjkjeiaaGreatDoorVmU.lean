/- Seat 8: which error: what fault.Tell tells, known. Conditions: none but those named. -/
import Derived.Test.YthohlnmcjkjeiaaGreatDoorVmQ
import Derived.Test.YthohlnmcjkjeiaaGreatDoorVmT
set_option linter.defProp false
namespace Go.Proofs.YthohlnmcjkjeiaaGreatDoor
open Go.Proofs.Tryz
set_option maxRecDepth 1000000
open Go Go.Vm Go.RowKit Go.ChangeAt Go.WideShapes
def Ey:Nat×aA:=(5,[.fq 275 (.agg [.gI 19 37])])
def J5:Nat->Nat->cP:=GR 396 ks [(4,AN),Ey]
def TH{k off:Nat}{v:V}(h:Bp k off=some v):J5 k off=some v:=by
 have h':=h;unfold Bp GR at h';unfold J5 GR;simp only[Pk,Ey] at h' ⊢;cases h4:Nat.beq k 4 with
 | true=>simp only[h4] at h' ⊢;exact h'
 | false =>
  simp only[h4] at h' ⊢;cases h5:Nat.beq k 5 with
  | false=>exact h'
  | true =>
   exfalso;have:=gy h5;subst this;unfold KC at h';revert h';simp[ks]
def zpN{g:Gh}(h:lg prog J5 g):lg prog Bp g :=
 ⟨λk off v hv=>h.1 k off v (TH hv),λk U j hv=>⟨(h.2 k U j (TH hv)).1,λk' U' j' dG e=>(h.2 k U j (TH hv)).2 k' U' j' (TH dG) e⟩⟩
def J6:∀g off v,J5 g off=some v->v.top=0:=by
 intro g off v h;unfold J5 GR at h;split at h
 ·rename_i vs I7;have:=Sl I7;simp only[dh,List.not_mem_nil,or_false,Ey,bS] at this;rw[zV] at h;rcases this with⟨_,rfl⟩|⟨_,rfl⟩
  ·exact Ec v (nF h)
  ·have:=nF h;simp only[uk] at this;rw[this];rfl
 ·unfold KC at h;split at h<;>simp only[aR,reduceCtorEq] at h;subst h;rfl
def zsZ(f:FuncId)(args:aA):cP:=if Nat.beq f 123 then match args with
 | [.fq 396 (.obj i),.fq 396 (.obj j)]=>if ks.any (Nat.beq i) && ks.any (Nat.beq j) then some (.bool (Nat.beq i j)) else none
 | _=>none else none
def zs0(_:Nat)(f:FuncId)(args:aA)(H:Hp):Option (Out×Hp):=if Nat.beq f 99 then match args with
 | [.fq 396 (.obj _),.fq tt (.ptr _ _)]=>if Nat.beq tt 167 || Nat.beq tt 171 || Nat.beq tt 176 || Nat.beq tt 180 then some (.ret (.bool false),H) else none
 | _=>none else none
def TJ:Gl:={ g:=J5,hk:=zsZ,iA:=zs0 }
def zpO{k:Nat}(h:ks.any (Nat.beq k)=true):J5 k 0=some (.fq 396 (.obj k)):=by
 refine TH ?_;obtain⟨x,hx,hk⟩:=List.any_eq_true.1 h;obtain rfl:=gy hk;simp only[ks,dh,List.not_mem_nil,or_false] at hx;rcases hx with rfl|rfl|rfl|rfl|rfl|rfl|rfl|rfl|rfl|rfl|rfl|rfl|rfl|rfl|rfl|rfl<;>rfl
def sk{g:Gh}{n:Nat}{a b:V}{bx:dI}(h:gz g n [a,b] bx):∃x y,bx=#[x,y]/\aQ g a x/\aQ g b y:=by
 obtain⟨l⟩:=bx;have:=h.len
 match l,this with
 | [x,y],_=>exact⟨x,y,rfl,h.rel 0 a x rfl rfl,h.rel 1 b y rfl rfl⟩
def hkE:sG prog TJ:=by
 refine⟨λf args v h d H g w bx lc h1 h2 h3=>?_,λn f args H out H' h d hd g w bx lc h1 h2 h3=>?_,λ_ _ _ _ h=>(by cases h)⟩
 ·simp only[TJ,zsZ] at h;split at h
  ·rename_i hf;obtain rfl:f=123:=gy hf;split at h
   ·rename_i i j;split at h
    ·rename_i hk;simp only[cR] at hk;cases h;obtain⟨x,y,rfl,r1,r2⟩:=sk h3;cases r1 with
     | fq r1=>cases r2 with
      | fq r2=>cases r1 with
       | obj _=>cases r2 with
        | obj _ =>
         have hA:=zeg (d:=d) h2 (Below.refl w.heap.size w);cases Fq:Nat.beq i j with
         | true =>
          obtain rfl:=gy Fq;refine Calls.mono (zre (g.obj i) w) λe w' he=>?_;obtain⟨rfl,rfl⟩:=he;exact⟨_,g,rfl,hA,.bool true,trivial,ga _⟩
         | false =>
          obtain⟨k1,k2⟩:=h1.2 i 396 i (zpO hk.1);obtain⟨k3,k4⟩:=h1.2 j 396 j (zpO hk.2);have cG:g.obj i≠g.obj j:=λe=>by
           have:=k2 j 396 j (zpO hk.2) e;subst this;simp at Fq
          obtain⟨⟨xs,t,l1⟩,_⟩:=h2.laid _ k1;obtain⟨⟨ys,t',l2⟩,_⟩:=h2.laid _ k3;refine Calls.mono (zpK (g.obj i) (g.obj j) xs ys t t' w cG l1 l2) λe w' he=>?_;obtain⟨rfl,rfl⟩:=he;exact⟨_,g,rfl,hA,.bool false,trivial,ga _⟩
    ·cases h
   ·cases h
  ·cases h
 ·simp only[TJ,zs0] at h;split at h
  ·rename_i hf;obtain rfl:f=99:=gy hf;split at h
   ·rename_i i tt b o;split at h
    ·rename_i hk;cases h;obtain⟨x,y,rfl,r1,r2⟩:=sk h3;obtain⟨cv,m1,m2,_⟩:=h1.1 5 0 (.fq 275 (.agg [.gI 19 37])) rfl;have hc:cv=.iface 275 (.agg #[.pointer (some ⟨19,37,none⟩)]):=by
      cases m2 with
      | fq m=>cases m with
       | agg e1 e2 e3 =>
        rename_i arr;obtain⟨l⟩:=arr
        match l,e1 with
        | [z],_ =>
         have:=e3 0 _ z rfl rfl;cases this;rfl
     subst hc;have eC:=h2.mem 5 0 _ m1;have hF:FK 167 165/\FK 171 170/\FK 176 175/\FK 180 179:=⟨NR,NS,NT,NU⟩;have main:∀tt te,FK tt te->aQ g (.fq tt (.ptr b o)) y->Calls prog 99 #[x,y] w (hO d H g w lc (.ret (.bool false)) H):=λtt te F q2=>by
      clear r2;cases r1 with
      | fq r1=>cases q2 with
       | fq q2=>cases r1 with
        | obj _=>cases q2 with
         | ptr _ _ =>
          refine Calls.mono (zrf F (g.obj i) _ w eC) λe w' he=>?_;obtain⟨rfl,rfl⟩:=he;refine⟨_,g,rfl,zeg h2 ?_,.bool false,trivial,ga _⟩;exact(((Below.refl _ w).alloc (ek _) _).alloc (by simp) _).alloc (by simp;omega) _
     simp only[mT] at hk;rcases hk with((hk|hk)|hk)|hk
     all_goals (have hh:=gy hk;subst hh)
     ·exact main _ _ hF.1 r2
     ·exact main _ _ hF.2.1 r2
     ·exact main _ _ hF.2.2.1 r2
     ·exact main _ _ hF.2.2.2 r2
    ·cases h
   ·cases h
  ·cases h
def Eh(k:Int):V:=.agg [.int .i64 k,.int .i64 0,.int .i64 0,.int .i64 0,.aJ]
def zs1(n:Nat):qt prog TJ (n+60) 15 [E6,Eh 9] ⟨[],[]⟩=some (.ret (.bool true),⟨[],[]⟩):=by kernel_rfl
def zsn(n:Nat):qt prog TJ (n+60) 15 [E5,Eh 15] ⟨[],[]⟩=some (.ret (.bool true),⟨[],[]⟩):=by kernel_rfl
end Go.Proofs.YthohlnmcjkjeiaaGreatDoor
namespace Go.Proofs.YthohlnmcjkjeiaaGreatDoor.A2
open Go Go.Vm Go.Vm.Sx
open Go.Proofs.Tryz
set_option maxRecDepth 100000
def dR(k n:Nat):List (Nat×GS):=(List.range n).map λi=>(k+i,.drop)
def Nc:List (Nat×JS):=[]
def tN:Tree :=
 (.gv 0 (.sl 1)
 (.ny (.room (.var 0) 8)
 (.dg (.app (.k .aJ) 1 3 (.var 0))
 (.dg (.sc (.one (.v 1 false)))
 (.out [(.v 2 false)])))))
def Nd:List (Nat×JS):=[(58,⟨[(3,(.one (.sl 1))),(4,(.one (.int .i64)))]++dR 5 14,[]⟩)]
def tP:Tree :=
 (.ite (.cmp .lss (.var 2) (.len (.var 0)))
     (.elem (.var 0) (.var 2)
     (.gv 3 (.sl 1)
     (.call 53 [(.d (.one (.v 3 true)))] [] []
     (.gv 4 (.sl 1)
     (.dg (.sc (.one (.v 4 true)))
     (.ny (.own 1 27)
     (.ny (.room (.snoc (.var 1) 5) 24)
     (.out [(.sl 1 (.snoc (.var 1) 5) (.yes 27)),(.i .i64 (.bin .add .i64 (.var 2) (.lit (1))))]))))))))
     (.oR
      (.dg (.sc (.one (.v 1 false)))
      (.out [(.v 3 false)]))))
def AO:Tree :=
 (.gv 0 (.sl 1)
 (.loop [(.k .aJ),(.i .i64 (.lit (0)))] tP))
def TK:List (Nat×JS):=[]
def Ei:Tree :=
 (.gv 0 (.int .i64)
 (.gv 1 (.int .i64)
 (.call 147 [(.d (.one (.v 0 true)))] [] []
 (.gv 2 .bool
 (.ite (.var 2)
   (.call 147 [(.d (.one (.v 1 true)))] [] []
   (.gv 3 .bool
   (.dg (.sc (.one (.b (.or (.not (.var 3)) (.cmp .lss (.var 0) (.var 1))))))
   (.out [(.v 4 false)]))))
   (.dg (.sc (.one (.b (.cmp .lss (.var 0) (.var 1)))))
   (.out [(.v 3 false)])))))))
def TM:List (Nat×JS):=[]
def Ej:Tree :=
 (.gv 0 (.int .i64)
 (.dg (.sc (.one (.b (.not (.cmp .eql (.var 0) (.var 0))))))
 (.out [(.v 1 false)])))
def acI:List (Nat×JS):=[(26,⟨[(3,(.one (.int .i64)))]++dR 7 14,[]⟩)]
def A9:Tree :=
 (.ite (.cmp .gtr (.var 1) (.lit (0)))
     (.elem (.var 0) (.var 1)
     (.gv 2 (.int .i64)
     (.elem (.var 0) (.bin .sub .i64 (.var 1) (.lit (1)))
     (.gv 3 (.int .i64)
     (.call 107 [(.d (.one (.v 2 true))),(.d (.one (.v 3 true)))] [] []
     (.gv 4 .bool
     (.ite (.var 4)
       (.oR
        (.dg (.sc (.one (.b (.lit false))))
        (.out [(.v 5 false)])))
       (.out [(.i .i64 (.bin .sub .i64 (.var 1) (.lit (1))))]))))))))
     (.oR
      (.dg (.sc (.one (.b (.lit true))))
      (.out [(.v 2 false)]))))
def HG:Tree :=
 (.gv 0 (.sl 1)
 (.loop [(.i .i64 (.bin .sub .i64 (.len (.var 0)) (.lit (1))))] A9))
def acJ:List (Nat×JS):=[(26,⟨[(7,.drop),(8,.drop),(11,(.one (.int .i64)))]++dR 12 41,[]⟩)]
def A_:Tree :=
 (.ite (.cmp .lss (.var 9) (.len (.var 0)))
     (.elem (.var 0) (.var 9)
     (.gv 10 (.int .i64)
     (.ite (.cmp .gtr (.var 9) (.lit (0)))
       (.elem (.var 0) (.bin .sub .i64 (.var 9) (.lit (1)))
       (.gv 11 (.int .i64)
       (.ite (.and (.and (.not (.or (.cmp .geq (.var 11) (.var 10)) (.cmp .lss (.var 10) (.lit (0))))) (.not (.cmp .eql (.var 10) (.bin .add .i64 (.var 4) (.var 1))))) (.not (.cmp .geq (.var 10) (.var 4))))
         (.elem (.var 6) (.var 10)
         (.gv 12 (.int .i64)
         (.ite (.not (.cmp .eql (.var 12) (.var 1)))
           (.oR
            (.dg (.sc (.one (.b (.lit false))))
            (.out [(.v 13 false),(.v 4 false),(.v 5 false),(.v 6 false),(.v 7 false),(.v 8 false)])))
           (.out [(.i .i64 (.bin .add .i64 (.var 9) (.lit (1))))]))))
         (.ite (.or (.or (.cmp .geq (.var 11) (.var 10)) (.cmp .lss (.var 10) (.lit (0)))) (.not (.cmp .eql (.var 10) (.bin .add .i64 (.var 4) (.var 1)))))
           (.oR
            (.dg (.sc (.one (.b (.lit false))))
            (.out [(.v 12 false),(.v 4 false),(.v 5 false),(.v 6 false),(.v 7 false),(.v 8 false)])))
           (.out [(.i .i64 (.bin .add .i64 (.var 9) (.lit (1))))])))))
       (.ite (.and (.and (.not (.cmp .lss (.var 10) (.lit (0)))) (.not (.cmp .eql (.var 10) (.bin .add .i64 (.var 4) (.var 1))))) (.not (.cmp .geq (.var 10) (.var 4))))
         (.elem (.var 6) (.var 10)
         (.gv 11 (.int .i64)
         (.ite (.not (.cmp .eql (.var 11) (.var 1)))
           (.oR
            (.dg (.sc (.one (.b (.lit false))))
            (.out [(.v 12 false),(.v 4 false),(.v 5 false),(.v 6 false),(.v 7 false),(.v 8 false)])))
           (.out [(.i .i64 (.bin .add .i64 (.var 9) (.lit (1))))]))))
         (.ite (.or (.cmp .lss (.var 10) (.lit (0))) (.not (.cmp .eql (.var 10) (.bin .add .i64 (.var 4) (.var 1)))))
           (.oR
            (.dg (.sc (.one (.b (.lit false))))
            (.out [(.v 11 false),(.v 4 false),(.v 5 false),(.v 6 false),(.v 7 false),(.v 8 false)])))
           (.out [(.i .i64 (.bin .add .i64 (.var 9) (.lit (1))))]))))))
     (.oR
      (.dg (.sc (.one (.b (.lit true))))
      (.out [(.v 10 false),(.v 4 false),(.v 5 false),(.v 6 false),(.v 7 false),(.v 8 false)]))))
def HH:Tree :=
 (.gv 4 (.int .i64)
 (.gv 5 (.sl 4)
 (.gv 6 (.sl 1)
 (.gv 7 (.sl 1)
 (.gv 8 (.sl 1)
 (.gv 0 (.sl 1)
 (.gv 1 (.int .i64)
 (.loop [(.i .i64 (.lit (0)))] A_))))))))
def acK:List (Nat×JS):=[(1018,⟨[(6,.drop),(7,.drop),(8,.drop),(9,.drop),(19,.drop),(20,.drop),(23,.drop),(24,.drop),(25,.drop),(26,.drop),(27,.drop),(30,.drop),(31,.drop),(32,.drop),(33,.drop),(34,.drop),(37,.drop),(38,.drop),(45,.drop),(46,.drop),(51,.drop),(52,.drop),(53,.drop),(54,.drop),(67,.drop),(68,.drop),(69,.drop),(70,.drop),(71,.drop),(72,.drop),(73,.drop),(74,.drop),(75,.drop),(79,(.one (.int .i64)))]++dR 80 14,[(1,[(some (.int .i64))]),(0,[(some (.sl 4)),(some (.sl 1)),(some (.sl 1)),(some (.sl 1))])]⟩),
 (506,⟨[(6,.drop),(7,.drop),(19,.drop),(20,.drop),(23,.drop),(24,.drop),(25,.drop),(26,.drop),(27,.drop),(30,.drop),(31,.drop),(32,.drop),(33,.drop),(34,.drop),(37,.drop),(38,.drop),(45,.drop),(46,.drop),(51,.drop),(52,.drop),(53,.drop),(54,.drop),(65,(.one (.int .i64)))]++dR 66 10,[(1,[(some (.int .i64))]),(0,[(some (.sl 4)),(some (.sl 1)),(some (.sl 1)),(some (.sl 1))])]⟩)]
def tU:Tree :=
 (.ite (.cmp .lss (.var 12) (.len (.var 11)))
                (.elem (.var 11) (.var 12)
                (.gv 18 (.sl 1)
                (.elem (.var 15) (.var 12)
                (.gv 19 (.int .i64)
                (.call 70 [(.d (.one (.v 18 true))),(.d (.one (.v 19 true))),(.p 0 0),(.p 1 0)] [([(.v 13 false)],3),([(.v 14 false),(.v 15 false),(.v 16 false),(.v 17 false)],30)] [(.int .i64),(.sl 4),(.sl 1),(.sl 1),(.sl 1)]
                (.gv 20 .bool
                (.ite (.not (.var 20))
                  (.oR
                   (.dg (.sc (.one (.b (.lit false))))
                   (.out [(.v 26 false)])))
                  (.out [(.i .i64 (.bin .add .i64 (.var 12) (.lit (1)))),(.v 21 false),(.v 22 false),(.v 23 false),(.v 24 false),(.v 25 false)]))))))))
                (.oR
                 (.dg (.sc (.one (.b (.lit true))))
                 (.out [(.v 18 false)]))))
def tV:Tree :=
 (.ite (.cmp .lss (.var 6) (.len (.var 3)))
           (.elem (.var 3) (.var 6)
           (.gv 12 (.sl 1)
           (.call 70 [(.d (.one (.v 12 true))),(.d (.one (.v 6 true))),(.p 0 0),(.p 1 0)] [([(.v 7 false)],3),([(.v 8 false),(.v 9 false),(.v 10 false),(.v 11 false)],30)] [(.int .i64),(.sl 4),(.sl 1),(.sl 1),(.sl 1)]
           (.gv 13 .bool
           (.ite (.not (.var 13))
             (.oR
              (.dg (.sc (.one (.b (.lit false))))
              (.out [(.v 19 false)])))
             (.out [(.i .i64 (.bin .add .i64 (.var 6) (.lit (1)))),(.v 14 false),(.v 15 false),(.v 16 false),(.v 17 false),(.v 18 false)]))))))
           (.oR
            (.loop [(.i .i64 (.lit (0))),(.v 7 false),(.v 8 false),(.v 9 false),(.v 10 false),(.v 11 false)] tU)))
def tW:Tree :=
 (.ite (.cmp .lss (.var 14) (.len (.var 13)))
                    (.elem (.var 13) (.var 14)
                    (.gv 20 (.sl 1)
                    (.elem (.var 17) (.var 14)
                    (.gv 21 (.int .i64)
                    (.call 70 [(.d (.one (.v 20 true))),(.d (.one (.v 21 true))),(.p 0 0),(.p 1 0)] [([(.v 15 false)],3),([(.v 16 false),(.v 17 false),(.v 18 false),(.v 19 false)],30)] [(.int .i64),(.sl 4),(.sl 1),(.sl 1),(.sl 1)]
                    (.gv 22 .bool
                    (.ite (.not (.var 22))
                      (.oR
                       (.dg (.sc (.one (.b (.lit false))))
                       (.out [(.v 28 false)])))
                      (.out [(.i .i64 (.bin .add .i64 (.var 14) (.lit (1)))),(.v 23 false),(.v 24 false),(.v 25 false),(.v 26 false),(.v 27 false)]))))))))
                    (.oR
                     (.dg (.sc (.one (.b (.lit true))))
                     (.out [(.v 20 false)]))))
def tX:Tree :=
 (.ite (.cmp .lss (.var 8) (.len (.var 3)))
               (.elem (.var 3) (.var 8)
               (.gv 14 (.sl 1)
               (.call 70 [(.d (.one (.v 14 true))),(.d (.one (.v 8 true))),(.p 0 0),(.p 1 0)] [([(.v 9 false)],3),([(.v 10 false),(.v 11 false),(.v 12 false),(.v 13 false)],30)] [(.int .i64),(.sl 4),(.sl 1),(.sl 1),(.sl 1)]
               (.gv 15 .bool
               (.ite (.not (.var 15))
                 (.oR
                  (.dg (.sc (.one (.b (.lit false))))
                  (.out [(.v 21 false)])))
                 (.out [(.i .i64 (.bin .add .i64 (.var 8) (.lit (1)))),(.v 16 false),(.v 17 false),(.v 18 false),(.v 19 false),(.v 20 false)]))))))
               (.oR
                (.loop [(.i .i64 (.lit (0))),(.v 9 false),(.v 10 false),(.v 11 false),(.v 12 false),(.v 13 false)] tW)))
def HI:Tree :=
 (.uf 0 [(.sl 4),(.sl 1),(.sl 1),(.sl 1)]
 (.ite (.not (.or (.or (.or (.cmp .gtr (.len (.var 1)) (.lit (1000))) (.cmp .gtr (.len (.var 3)) (.lit (200)))) (.not (.cmp .eql (.len (.var 2)) (.len (.var 1))))) (.not (.cmp .eql (.len (.var 4)) (.len (.var 1))))))
   (.call 69 [(.d (.one (.v 2 true)))] [] []
   (.gv 5 .bool
   (.ite (.not (.var 5))
     (.dg (.sc (.one (.b (.lit false))))
     (.out [(.v 6 false)]))
     (.ite (.cmp .gtr (.len (.var 1)) (.lit (0)))
       (.elem (.var 2) (.lit (0))
       (.gv 6 (.int .i64)
       (.ite (.not (.cmp .lss (.var 6) (.lit (0))))
         (.elem (.var 2) (.bin .sub .i64 (.len (.var 1)) (.lit (1)))
         (.gv 7 (.int .i64)
         (.ite (.cmp .geq (.var 7) (.len (.var 3)))
           (.dg (.sc (.one (.b (.lit false))))
           (.out [(.v 8 false)]))
           (.loop [(.i .i64 (.lit (0))),(.i .i64 (.len (.var 1))),(.v 1 true),(.v 2 true),(.v 3 true),(.v 4 true)] tX))))
         (.dg (.sc (.one (.b (.lit false))))
         (.out [(.v 7 false)])))))
       (.loop [(.i .i64 (.lit (0))),(.i .i64 (.len (.var 1))),(.v 1 true),(.v 2 true),(.v 3 true),(.v 4 true)] tV)))))
   (.dg (.sc (.one (.b (.lit false))))
   (.out [(.v 5 false)]))))
def rV:z_ prog Nc 53=some tN:=by kernel_rfl
def Ae:z_ prog Nd 68=some AO:=by kernel_rfl
def Dl:z_ prog TK 107=some Ei:=by kernel_rfl
def Dm:z_ prog TM 147=some Ej:=by kernel_rfl
def E7:z_ prog acI 69=some HG:=by kernel_rfl
def E8:Zl prog acJ 70 [3,30]=some HH:=by kernel_rfl
def E9:z_ prog acK 24=some HI:=by kernel_rfl
abbrev rX:=Bool×List Int
abbrev od:=Bool×List rX
abbrev Q4:=Int×Int×Int×Int
structure F where
 s:Bool×List Q4
 r:rX
 f:od
 n:od
def ie(n:Int):V:=.int .i64 n
def iv(p:rX):V:=lv 1 p.1 (p.2.map ie)
def rv(p:od):V:=lv 1 p.1 (p.2.map iv)
def qe(q:Q4):V:=.agg [.int .u64 q.1,.int .u64 q.2.1,.int .u64 q.2.2.1,.int .u64 q.2.2.2]
def qv(p:Bool×List Q4):V:=lv 4 p.1 (p.2.map qe)
def fc(f:F):aA:=[qv f.s,iv f.r,rv f.f,rv f.n]
def fv(f:F):V:=.agg (fc f)
def Xe{α:Type}{h:α->V}(hh:∀a,(h a).top=0):∀(l:List α),aI (l.map h)=0
 | []=>rfl
 | a::l=>by simp[aI,hh a,Xe hh l]
def TN(p:rX):(iv p).top=0:=by unfold iv;rw[M5];exact Xe (λ_=>rfl) _
def zso(p:od):(rv p).top=0:=by unfold rv;rw[M5];exact Xe TN _
def zsp(p:Bool×List Q4):(qv p).top=0:=by unfold qv;rw[M5];exact Xe (λ_=>rfl) _
def zmm(f:F):aI (fc f)=0:=by simp[fc,aI,zsp,TN,zso]
def zsq(f:F):(fv f).top=0:=zmm f
def W64(z:Int):Prop:=-9223372036854775808<=z/\z<=9223372036854775807
def WI(p:rX):Prop:=p.2.length * 8<=reachBytes/\∀z∈p.2,W64 z
def WR(p:od):Prop:=p.2.length * 24<=reachBytes/\∀q∈p.2,WI q
structure WF(f:F):Prop where
 s:f.s.2.length * 32<=reachBytes
 r:WI f.r
 fi:WR f.f
 ne:WR f.n
def c3:prog.cellsOf 3=1:=by kernel_rfl
def b3:prog.bytesOf 3=8:=by kernel_rfl
section
set_option linter.unusedSectionVars false
def Ce(p:rX):fh (.sl 1) (iv p)=true:=M6 ..
def Dn(p:od):fh (.sl 1) (rv p)=true:=M6 ..
def Dp(p:Bool×List Q4):fh (.sl 4) (qv p)=true:=M6 ..
def ww(p:rX):vL (iv p)=p.2.map ie:=M7 ..
def ya(p:od):vL (rv p)=p.2.map iv:=M7 ..
def PY(p:Bool×List Q4):vL (qv p)=p.2.map qe:=M7 ..
def yn(p:rX):aT (iv p)=iv p:=Pg ..
def Xf(p:od):aT (rv p)=rv p:=Pg ..
def Xg(p:Bool×List Q4):aT (qv p)=qv p:=Pg ..
def xF(n:Int):fh (.int .i64) (ie n)=true:=by simp[ie,fh]
def yT(n:Int):vI (ie n)=n:=by simp[ie,vI]
def NV(n:Int):aT (ie n)=ie n:=rfl
def tS(sz:Nat)(e:aq)(l:aA):Ih .aJ sz e l=acc sz e l:=by cases l<;>rfl
def eR{α:Type}{h:α->V}{l:List α}{i:Nat}{a:α}(ha:l[i]?=some a):nth (l.map h) i=some (h a):=by rw[zV,mS,ha];rfl
def p6:reachBytes<=140737488355328:=by decide
variable{gl:Gl}[mw gl]
def zrs{x:V}:vG prog [27] [.d x] 0:=by
 refine⟨λe=>?_,trivial⟩;rw[underlying27];simp
def zs2{x:V}:vG prog [30] [.d x] 0:=by
 refine⟨λe=>?_,trivial⟩;rw[underlying30];simp
def zsr{x:V}:vG prog [3] [.d x] 0:=by
 refine⟨λe=>?_,trivial⟩;rw[underlying3];simp
def zss{x y:V}:vG prog [3,3] [.d x,.d y] 0:=by
 refine⟨λe=>?_,λe=>?_,trivial⟩<;>rw[underlying3]<;>simp
def Dk:yR prog f53.params.toList=some []:=by kernel_rfl
def Hv:yR prog f68.params.toList=some []:=by kernel_rfl
def Ty(ez:GL gl)(p:rX)(hp:WI p):Ev prog gl 53 [.d (iv p)] [] (acc 1 3 (p.2.map ie)) []:=by
 refine kR (xs:=[iv p]) ez.top (ez.no 53 rfl) rV func53 Dk zrs (by simp[aI,TN]) (N:=1) ?_
 have hr:=p6;have h1:kr p.2.length 8=true:=Sx.eP (by have:=hp.1;omega) (by have:=hp.1;omega)
 simp only[tN]
 simp only[qC,qV,qD,qX,jG,jH,qo,qy,bt,cj,qk,bB,qq,jp,Ce,ww,h1,tS,eF]
end
section
set_option linter.unusedSectionVars false
variable{gl:Gl}[mw gl]
def gi(l:List Int)(i:Nat):Int:=l.getD i 0
def zst{l:List Int}{i:Nat}(h:i<l.length):l[i]?=some (gi l i):=by simp[gi,h]
def xG{l:List Int}{i:Nat}(h:i<l.length):nth (l.map ie) i=some (ie (gi l i)):=eR (zst h)
def gr(l:List (List Int))(i:Nat):List Int:=l.getD i []
def rowsOf(p:od):List (List Int):=p.2.map (·.2)
def zcB(p:od):(rowsOf p).length=p.2.length:=by simp[rowsOf]
def Xh{p:od}{i:Nat}{q:rX}(h:p.2[i]?=some q):gr (rowsOf p) i=q.2:=by simp[gr,rowsOf,h]
def zs3(ez:GL gl)(x:Int):Ev prog gl 147 [.d (ie x)] [] (.bool false) []:=by
 refine kR (xs:=[ie x]) ez.top (ez.no 147 rfl) Dm func147 (by kernel_rfl) zsr (by simp[aI,ie,V.top]) (N:=1) ?_
 simp only[Ej]
 simp only[qV,qD,qX,jG,jH,eU,qo,qy,bt,bL,qk,bB,qq,jp,qR,xF,yT,beq_self_eq_true]
def zrt(ez:GL gl)(x y:Int):Ev prog gl 107 [.d (ie x),.d (ie y)] [] (.bool (gx x y)) []:=by
 refine kR (xs:=[ie x,ie y]) ez.top (ez.no 107 rfl) Dl func107 (by kernel_rfl) zss (by simp[aI,ie,V.top]) (N:=1) ?_
 have e:=ke (zs3 ez x);simp only[Ei]
 simp only[jN,qV,qD,qX,qF,jG,jH,jf,aX,fo,jd,qo,qy,bt,bL,qk,bB,qq,jq,fF,qK,jp,qA,qN,aV,aP,xF,yT,NV,e]
def PZ(l:List Int):Bool:=kS (λk=>!gx (gi l (l.length - 1 - k)) (gi l (l.length - 1 - k - 1))) (l.length - 1)
def ztl(ez:GL gl)(p:rX)(hp:p.2.length * 8<=reachBytes):Ev prog gl 69 [.d (iv p)] [] (.bool (PZ p.2)) []:=by
 refine kR (xs:=[iv p]) ez.top (ez.no 69 rfl) E7 func69 (by kernel_rfl) zrs (by simp[aI,TN]) (N:=p.2.length+1) ?_
 have hr:=p6;have DI:IntKind.i64.wrap ((p.2.length:Int) - 1)=(p.2.length:Int) - 1 - ((0:Nat):Int):=by rw[JA (by omega) (by omega)];omega
 simp only[HG];simp only[qX,qB,jG,bL,cj,qk,bB,fK,Ce,ww,DI,eF]
 refine Pj (ok:=λk=>!gx (gi p.2 (p.2.length - 1 - k)) (gi p.2 (p.2.length - 1 - k - 1))) (st:=λk=>[.int .i64 ((p.2.length:Int) - 1 - (k:Int))]) (n:=p.2.length - 1) (good:=[.bool true]) (bad:=[.bool false]) (λk hk ho=>?_) (λk hk ho=>?_) (λ_=>?_) (by omega) ?_
 ·have h1:gx 0 ((p.2.length:Int) - 1 - (k:Int))=true:=ER (by omega)
  have h2:gx ((p.2.length:Int) - 1 - (k:Int)) 0=false:=Io (by omega)
  have h3:IntKind.i64.wrap ((p.2.length:Int) - 1 - (k:Int) - 1)=((p.2.length - 1 - k - 1:Nat):Int):=by rw[JA (by omega) (by omega)];omega
  have h4:((p.2.length:Int) - 1 - (k:Int)).toNat=p.2.length - 1 - k:=by omega
  have h5:=xG (l:=p.2) (i:=p.2.length - 1 - k) (by omega)
  have h6:=xG (l:=p.2) (i:=p.2.length - 1 - k - 1) (by omega)
  have h7:((p.2.length - 1 - k - 1:Nat):Int)=(p.2.length:Int) - 1 - ((k+1:Nat):Int):=by omega
  have e:=ke (zrt ez (gi p.2 (p.2.length - 1 - k)) (gi p.2 (p.2.length - 1 - k - 1)));have Im:gx (gi p.2 (p.2.length - 1 - k)) (gi p.2 (p.2.length - 1 - k - 1))=false:=by simpa using ho
  rw[Im] at e;rw[<- h7];simp only[A9]
  simp only[jM,jN,qV,qE,qX,qF,jG,jH,jf,aX,fo,jd,je,qo,qy,bt,bL,cj,qk,bB,qq,jq,fF,qK,qT,qA,qP,fK,jb,aV,aP,ww,h1,h2,h3,h4,h5,h6,e,xF,NV,l9]
 ·have h1:gx 0 ((p.2.length:Int) - 1 - (k:Int))=true:=ER (by omega)
  have h2:gx ((p.2.length:Int) - 1 - (k:Int)) 0=false:=Io (by omega)
  have h3:IntKind.i64.wrap ((p.2.length:Int) - 1 - (k:Int) - 1)=((p.2.length - 1 - k - 1:Nat):Int):=by rw[JA (by omega) (by omega)];omega
  have h4:((p.2.length:Int) - 1 - (k:Int)).toNat=p.2.length - 1 - k:=by omega
  have h5:=xG (l:=p.2) (i:=p.2.length - 1 - k) (by omega)
  have h6:=xG (l:=p.2) (i:=p.2.length - 1 - k - 1) (by omega)
  have e:=ke (zrt ez (gi p.2 (p.2.length - 1 - k)) (gi p.2 (p.2.length - 1 - k - 1)));have Im:gx (gi p.2 (p.2.length - 1 - k)) (gi p.2 (p.2.length - 1 - k - 1))=true:=by simpa using ho
  rw[Im] at e;simp only[A9]
  simp only[jM,qV,aZ,qD,qE,qX,qF,jG,jH,jf,aX,fo,jd,je,qo,qy,bt,bL,cj,qk,bB,qq,jq,fF,qK,jp,qT,qA,qP,fK,jb,aV,aP,ww,h1,h2,h3,h4,h5,h6,e,xF,NV,l9]
 ·have h1:gx 0 ((p.2.length:Int) - 1 - ((p.2.length - 1:Nat):Int))=false:=Io (by omega)
  simp only[A9];simp only[jN,qV,aZ,qD,jG,jH,qo,qy,bt,bL,qk,bB,qq,jp,qT,qP,h1]
 ·simp only[PZ];cases kS (λk=>!gx (gi p.2 (p.2.length - 1 - k)) (gi p.2 (p.2.length - 1 - k - 1))) (p.2.length - 1)<;>rfl
end
section
set_option linter.unusedSectionVars false
variable{gl:Gl}[mw gl]
def ok1(r:List Int)(R:Nat)(i:Nat):Bool:=!gx (gi r i) 0 && (!EP (R:Int) (gi r i) && (i == 0 || !gx (gi r i) (gi r (i - 1))))
end
section
set_option linter.unusedSectionVars false
variable{gl:Gl}[mw gl]
def yo(n:Nat)(rules:List Int)(nD:Int)(l:List Int)(i:Nat):Bool :=
 bif (i == 0 || !EP (gi l i) (gi l (i - 1))) && !gx (gi l i) 0 then (bif gi l i == (n:Int)+nD then true else bif EP (n:Int) (gi l i) then false else gi rules (gi l i).toNat == nD) else false
def zs4{x y:V}:vG prog [27,3] [.d x,.d y] 0:=by
 refine⟨λe=>?_,λe=>?_,trivial⟩
 ·rw[underlying27];simp
 ·rw[underlying3];simp
def J7:O1 prog [3,30]=some [(3,[.int .i64]),(30,[.sl 4,.sl 1,.sl 1,.sl 1])]:=by kernel_rfl
def TO(p:rX)(nD:Int):List AV:=[.d (iv p),.d (ie nD),.p 0 0,.p 1 0]
def J8(n:Nat)(f:F):List (aA×aq):=[([.int .i64 (n:Int)],3),([qv f.s,iv f.r,rv f.f,rv f.n],30)]
def NW(n:Nat)(f:F):List aA:=[[.int .i64 (n:Int)],[qv f.s,iv f.r,rv f.f,rv f.n]]
theorem Xi(ez:GL gl)(n:Nat)(f:F)(hn:f.r.2.length=n)(p:rX)(hp:WI p)(nD:Int)(hw:IntKind.i64.wrap ((n:Int)+nD)=(n:Int)+nD):Ev prog gl 70 (TO p nD) (J8 n f) (.bool (kS (yo n f.r.2 nD p.2) p.2.length)) (NW n f):=by
 have hr:=p6;have oN:=hp.1;have YM:=zmm f
 refine zoR (P:=prog) (lp:=[]) (N:=p.2.length+1) (zkS ez.top) (ez.no 70 rfl) E8 func70 (by kernel_rfl) J7 (gA:=[.d (iv p),.d (ie nD)]) zs4 (fp:=J8 n f) (show CZ [(3,[.int .i64]),(30,[.sl 4,.sl 1,.sl 1,.sl 1])] (J8 n f) from⟨rfl,rfl,rfl,rfl,rfl,YM,trivial⟩) (λx hx=>?_) (show CY (J8 n f) (NW n f) from⟨rfl,rfl,trivial⟩) ?_
 ·simp only[dh,AV.d.injEq,List.not_mem_nil,or_false] at hx;rcases hx with rfl|rfl
  ·exact TN _
  ·rfl
 have body:∀i,i<p.2.length->cw (sA prog gl) gl (p.2.length+1) A_ ([iv p,ie nD,.ef,.ef,.int .i64 (n:Int),qv f.s,iv f.r,rv f.f,rv f.n]++[.int .i64 (i:Int)])=bif yo n f.r.2 nD p.2 i then some (0,[.int .i64 ((i+1:Nat):Int)]) else some (1,[.bool false,.int .i64 (n:Int),qv f.s,iv f.r,rv f.f,rv f.n]):=by
  intro i hi;have h1:=K6 hi;have h4:=Ph (i:=i) (by omega)
  have h5:=xG hi;simp only[A_,yo];generalize hx:gi p.2 i=x at h5;have h13:EP (n:Int) x=false->gx x 0=false->nth (f.r.2.map ie) x.toNat=some (ie (gi f.r.2 x.toNat)):=λh7 h6=>by
   have h7':x<(n:Int):=by simpa[EP] using h7
   have h6':0<=x:=by simpa[gx] using h6
   exact xG (by omega)
  rcases N3 i with h0|h0
  ·subst h0;have h8:gx 0 ((0:Nat):Int)=false:=by decide
   have h9:((0:Nat) == 0)=true:=rfl;cases h6:gx x 0 with
   | true=>simp only[jM,jN,qV,aZ,qD,qE,qX,jG,jH,fY,fm,fO,eU,je,qo,qy,bt,bL,cj,qk,bB,qq,jp,qT,qN,qP,qQ,qR,fK,jb,ww,h1,h5,h6,h8,h9,hw,xF,yT,eF,l9]
   | false =>
   cases J9:x == (n:Int)+nD with
   | true=>simp only[jM,jN,qV,qE,qX,jG,jH,fo,fY,fm,fO,fD,eU,fz,jd,je,qo,qy,bt,bL,cj,qk,bB,qT,qN,qP,qQ,qR,fK,jb,ww,h1,h4,h5,h6,h8,h9,J9,hw,xF,yT,eF,l9]
   | false =>
   cases h7:EP (n:Int) x with
   | true=>simp only[jM,jN,qV,aZ,qD,qE,qX,jG,jH,fo,fY,fP,fO,eU,fz,jd,je,qo,qy,bt,bL,cj,qk,bB,qq,jp,qT,qN,qP,qQ,qR,fK,jb,ww,h1,h5,h6,h7,h8,h9,J9,hw,xF,yT,eF,l9]
   | false =>
    have TP:=h13 h7 h6;cases TQ:gi f.r.2 x.toNat == nD with
    | true=>simp only[jM,jN,qV,qE,qX,jG,jH,fo,fO,eU,fz,jd,je,qo,qy,bt,bL,cj,qk,bB,qT,qN,qP,qQ,qR,fK,jb,ww,h1,h4,h5,h6,h7,h8,h9,J9,TP,TQ,hw,xF,yT,eF,l9]
    | false=>simp only[jM,jN,qV,aZ,qD,qE,qX,jG,jH,fo,fO,fz,jd,je,qo,qy,bt,bL,cj,qk,bB,qq,jp,qT,qN,qP,qQ,qR,fK,jb,ww,h1,h5,h6,h7,h8,h9,J9,TP,TQ,hw,xF,yT,eF,l9]
  ·have h8:gx 0 (i:Int)=true:=ER (by omega)
   have h9:(i == 0)=false:=by simp;omega
   have B7:IntKind.i64.wrap ((i:Int) - 1)=((i - 1:Nat):Int):=by rw[JA (by omega) (by omega)];omega
   have C':=xG (l:=p.2) (i:=i - 1) (by omega)
   cases IF:EP x (gi p.2 (i - 1)) with
   | true=>simp only[jM,jN,qV,aZ,qD,qE,qX,jG,jH,fm,fO,fD,eU,je,qo,qy,bt,bL,cj,qk,bB,qq,jp,qT,qN,qP,qQ,qR,fK,jb,ww,h1,h5,h8,h9,B7,C',IF,hw,xF,yT,eF,l9]
   | false =>
   cases h6:gx x 0 with
   | true=>simp only[jM,jN,qV,aZ,qD,qE,qX,jG,jH,fY,fm,fP,fO,eU,fz,je,qo,qy,bt,bL,cj,qk,bB,qq,jp,qT,qN,qP,qQ,qR,fK,jb,ww,h1,h5,h6,h8,h9,B7,C',IF,hw,xF,yT,eF,l9]
   | false =>
   cases J9:x == (n:Int)+nD with
   | true=>simp only[jM,jN,qV,qE,qX,jG,jH,fo,fY,fm,fP,fD,eU,fz,jd,je,qo,qy,bt,bL,cj,qk,bB,qT,qN,qP,qQ,qR,fK,jb,ww,h1,h4,h5,h6,h8,h9,B7,C',IF,J9,hw,xF,yT,eF,l9]
   | false =>
   cases h7:EP (n:Int) x with
   | true=>simp only[jM,jN,qV,aZ,qD,qE,qX,jG,jH,fo,fY,fP,fD,eU,fz,jd,je,qo,qy,bt,bL,cj,qk,bB,qq,jp,qT,qN,qP,qQ,qR,fK,jb,ww,h1,h5,h6,h7,h8,h9,B7,C',IF,J9,hw,xF,yT,eF,l9]
   | false =>
    have TP:=h13 h7 h6;cases TQ:gi f.r.2 x.toNat == nD with
    | true=>simp only[jM,jN,qV,qE,qX,jG,jH,fo,fP,fD,eU,fz,jd,je,qo,qy,bt,bL,cj,qk,bB,qT,qN,qP,qQ,qR,fK,jb,ww,h1,h4,h5,h6,h7,h8,h9,B7,C',IF,J9,TP,TQ,hw,xF,yT,eF,l9]
    | false=>simp only[jM,qV,aZ,qD,qE,qX,jG,jH,fo,fP,fD,fz,jd,je,qo,qy,bt,bL,cj,qk,bB,qq,jp,qT,qN,qP,qQ,qR,fK,jb,ww,h1,h5,h6,h7,h8,h9,B7,C',IF,J9,TP,TQ,hw,xF,yT,eF,l9]
 simp only[HH,sJ,xH,k_,J8,NW,cF,cq,bW,cM,bq,List.length_nil,pU]
 simp only[qX,qB,jG,jH,jI,qo,qy,qH,bL,qk,bB,aV,Ce,Dn,Dp,xF]
 refine Pj (ok:=yo n f.r.2 nD p.2) (st:=λi=>[.int .i64 (i:Int)]) (n:=p.2.length) (good:=[.bool true,.int .i64 (n:Int),qv f.s,iv f.r,rv f.f,rv f.n]) (bad:=[.bool false,.int .i64 (n:Int),qv f.s,iv f.r,rv f.f,rv f.n]) (λi hi ho=>?_) (λi hi ho=>?_) (λ_=>?_) (by omega) ?_
 ·have:=body i hi;rw[ho] at this;exact this
 ·have:=body i hi;rw[ho] at this;exact this
 ·have h1:=K7 (ek p.2.length);simp only[A_]
  simp only[jN,qV,aZ,qD,jG,jH,qo,qy,bt,bL,cj,qk,bB,qq,jp,qT,qN,ww,h1,eF]
 ·cases kS (yo n f.r.2 nD p.2) p.2.length<;>rfl
end
section
set_option linter.unusedSectionVars false
variable{gl:Gl}[mw gl]
def znC{l:List Int}(h:PZ l=true){j:Nat}(hj:j+1<l.length):gi l j<=gi l (j+1):=by
 have:=pV.1 h (l.length - 1 - (j+1)) (by omega)
 simp only[sR] at this;have e1:l.length - 1 - (l.length - 1 - (j+1))=j+1:=by omega
 rw[e1] at this;have e2:j+1 - 1=j:=by omega
 rw[e2] at this;simpa[gx] using this
def ziw{l : List Int}(h : PZ l = true) : ∀{j i : Nat}, i <= j -> j < l.length -> gi l i <= gi l j
  | 0, i, hi, _ => by have : i = 0 := by omega
                      subst this; exact Int.le_refl _
  | j + 1, i, hi, hj => by
    rcases lP i (j + 1) with h1 | h1
    · exact Int.le_trans (ziw h (by omega) (by omega)) (znC h hj)
    · have : i = j + 1 := by omega
      subst this; exact Int.le_refl _
def P0(n:Nat)(r:List Int)(fs ns:List (List Int)):Bool :=
 bif kS (λi=>kS (yo n r (i:Int) (gr fs i)) (gr fs i).length) fs.length then kS (λi=>kS (yo n r (gi r i) (gr ns i)) (gr ns i).length) n else false
def J_(n:Nat)(r:List Int)(fs ns:List (List Int)):Bool :=
 bif (((gx 1000 (n:Int) || gx 200 (fs.length:Int)) || !((r.length:Int) == (n:Int))) || !((ns.length:Int) == (n:Int))) then false else
 bif PZ r then bif gx 0 (n:Int) then bif !gx (gi r 0) 0 then bif EP (fs.length:Int) (gi r (n - 1)) then false else P0 n r fs ns else false else P0 n r fs ns else false
def zs5(ez:GL gl)(f:F)(hf:WF f)(N:Nat)(AJ:f.r.2.length=f.s.2.length)(gX:f.n.2.length=f.s.2.length)(g1:f.s.2.length<=1000)(g2:f.f.2.length<=200)(hN:∀i,i<f.s.2.length->IntKind.i64.wrap ((f.s.2.length:Int)+gi f.r.2 i)=(f.s.2.length:Int)+gi f.r.2 i)(hNN:f.s.2.length+f.f.2.length<N) :
  Jz (sA prog gl) gl N tV [fv f,qv f.s,iv f.r,rv f.f,rv f.n,.bool true] [.int .i64 0,.int .i64 (f.s.2.length:Int),qv f.s,iv f.r,rv f.f,rv f.n]=some (0,[.bool (P0 f.s.2.length f.r.2 (rowsOf f.f) (rowsOf f.n))]):=by
 have BS:∀i,i<f.n.2.length->cw (sA prog gl) gl N tU ([fv f,qv f.s,iv f.r,rv f.f,rv f.n,.bool true]++[.int .i64 (f.f.2.length:Int),.int .i64 (f.s.2.length:Int),qv f.s,iv f.r,rv f.f,rv f.n]++[.int .i64 (i:Int),.int .i64 (f.s.2.length:Int),qv f.s,iv f.r,rv f.f,rv f.n])=bif kS (yo f.s.2.length f.r.2 (gi f.r.2 i) (gr (rowsOf f.n) i)) (gr (rowsOf f.n) i).length then some (0,[.int .i64 ((i+1:Nat):Int),.int .i64 (f.s.2.length:Int),qv f.s,iv f.r,rv f.f,rv f.n]) else some (1,[.bool false]):=by
  intro i hi;obtain⟨q,hq⟩:∃q,f.n.2[i]?=some q:=⟨f.n.2[i],by simp[hi]⟩
  have h1:=K6 hi;have h2:=eR (h:=iv) hq;have h3:=xG (l:=f.r.2) (i:=i) (by omega)
  have h4:=Ph (i:=i) (by omega)
  rw[Xh hq];have hc:=ke (Xi ez f.s.2.length f AJ q (hf.ne.2 q (nF hq)) (gi f.r.2 i) (hN i (by omega)))
  simp only[TO,J8,NW] at hc;simp only[tU];cases hb:kS (yo f.s.2.length f.r.2 (gi f.r.2 i) q.2) q.2.length with
  | true =>
   rw[hb] at hc
   simp only[jM,jN,qV,qE,qX,qF,jG,jH,qz,jI,jf,aX,fo,eU,jd,je,qo,qy,qH,bt,bL,cj,qk,bB,qq,jq,fF,qK,qT,qA,qN,fK,jb,aV,aP,dW,bq,List.length_nil,ya,ww,h1,h2,h3,h4,hc,Ce,xF,Dn,Dp,yn,NV,eF,l9]
  | false =>
   rw[hb] at hc
   simp only[jM,qV,aZ,qD,qE,qX,qF,jG,jH,qz,jI,jf,aX,fo,fz,jd,je,qo,qy,qH,bt,bL,cj,qk,bB,qq,jq,fF,qK,jp,qT,qA,qN,jb,aV,aP,dW,bq,List.length_nil,ya,ww,h1,h2,h3,hc,Ce,xF,Dn,Dp,yn,NV,eF,l9]
 have oC:∀i,i<f.f.2.length->cw (sA prog gl) gl N tV ([fv f,qv f.s,iv f.r,rv f.f,rv f.n,.bool true]++[.int .i64 (i:Int),.int .i64 (f.s.2.length:Int),qv f.s,iv f.r,rv f.f,rv f.n])=bif kS (yo f.s.2.length f.r.2 (i:Int) (gr (rowsOf f.f) i)) (gr (rowsOf f.f) i).length then some (0,[.int .i64 ((i+1:Nat):Int),.int .i64 (f.s.2.length:Int),qv f.s,iv f.r,rv f.f,rv f.n]) else some (1,[.bool false]):=by
  intro i hi;obtain⟨q,hq⟩:∃q,f.f.2[i]?=some q:=⟨f.f.2[i],by simp[hi]⟩
  have h1:=K6 hi;have h2:=eR (h:=iv) hq;have h4:=Ph (i:=i) (by omega)
  rw[Xh hq];have hc:=ke (Xi ez f.s.2.length f AJ q (hf.fi.2 q (nF hq)) (i:Int) (JA (by omega) (by omega)))
  simp only[TO,J8,NW,ie] at hc;simp only[tV];cases hb:kS (yo f.s.2.length f.r.2 (i:Int) q.2) q.2.length with
  | true =>
   rw[hb] at hc
   simp only[jM,jN,qV,qE,qX,qF,jG,jH,qz,jI,jf,aX,fo,eU,jd,je,qo,qy,qH,bt,bL,cj,qk,bB,qq,jq,fF,qK,qT,qA,qN,fK,jb,aV,aP,zg,dW,bq,List.length_nil,ya,h1,h2,h4,hc,Ce,Dn,Dp,yn,eF,l9]
  | false =>
   rw[hb] at hc
   simp only[jM,qV,aZ,qD,qE,qX,qF,jG,jH,qz,jI,jf,aX,fo,fz,jd,je,qo,qy,qH,bt,bL,cj,qk,bB,qq,jq,fF,qK,jp,qT,qA,qN,jb,aV,aP,zg,dW,bq,List.length_nil,ya,h1,h2,hc,Ce,Dn,Dp,yn,eF,l9]
 have L2:Jz (sA prog gl) gl N tU ([fv f,qv f.s,iv f.r,rv f.f,rv f.n,.bool true]++[.int .i64 (f.f.2.length:Int),.int .i64 (f.s.2.length:Int),qv f.s,iv f.r,rv f.f,rv f.n]) [.int .i64 0,.int .i64 (f.s.2.length:Int),qv f.s,iv f.r,rv f.f,rv f.n]=some (0,[.bool (kS (λi=>kS (yo f.s.2.length f.r.2 (gi f.r.2 i) (gr (rowsOf f.n) i)) (gr (rowsOf f.n) i).length) f.s.2.length)]):=by
  refine Pj (ok:=λi=>kS (yo f.s.2.length f.r.2 (gi f.r.2 i) (gr (rowsOf f.n) i)) (gr (rowsOf f.n) i).length) (st:=λi=>[.int .i64 (i:Int),.int .i64 (f.s.2.length:Int),qv f.s,iv f.r,rv f.f,rv f.n]) (n:=f.n.2.length) (good:=[.bool true]) (bad:=[.bool false]) (λi hi ho=>by have:=BS i hi;rw[ho] at this;exact this) (λi hi ho=>by have:=BS i hi;rw[ho] at this;exact this) (λ_=>?_) (by omega) ?_
  ·have h1:=K7 (ek f.n.2.length);simp only[tU]
   simp only[jN,qV,aZ,qD,jG,jH,qo,qy,bt,bL,cj,qk,bB,qq,jp,qT,qN,ya,h1,eF]
  ·rw[gX];cases kS (λi=>kS (yo f.s.2.length f.r.2 (gi f.r.2 i) (gr (rowsOf f.n) i)) (gr (rowsOf f.n) i).length) f.s.2.length<;>rfl
 refine Pj (ok:=λi=>kS (yo f.s.2.length f.r.2 (i:Int) (gr (rowsOf f.f) i)) (gr (rowsOf f.f) i).length) (st:=λi=>[.int .i64 (i:Int),.int .i64 (f.s.2.length:Int),qv f.s,iv f.r,rv f.f,rv f.n]) (n:=f.f.2.length) (good:=[.bool (kS (λi=>kS (yo f.s.2.length f.r.2 (gi f.r.2 i) (gr (rowsOf f.n) i)) (gr (rowsOf f.n) i).length) f.s.2.length)]) (bad:=[.bool false]) (λi hi ho=>by have:=oC i hi;rw[ho] at this;exact this) (λi hi ho=>by have:=oC i hi;rw[ho] at this;exact this) (λ_=>?_) (by omega) ?_
 ·have h1:=K7 (ek f.f.2.length);simp only[cF,cq] at L2;simp only[tV]
  simp only[jN,aZ,qB,jG,jH,qo,qy,bt,bL,cj,qk,bB,qT,qN,ya,h1,L2,eF]
 ·simp only[P0,zcB];cases kS (λi=>kS (yo f.s.2.length f.r.2 (i:Int) (gr (rowsOf f.f) i)) (gr (rowsOf f.f) i).length) f.f.2.length<;>rfl
def zs6(ez:GL gl)(f:F)(hf:WF f)(N:Nat)(x y:Int)(AJ:f.r.2.length=f.s.2.length)(gX:f.n.2.length=f.s.2.length)(g1:f.s.2.length<=1000)(g2:f.f.2.length<=200)(hN:∀i,i<f.s.2.length->IntKind.i64.wrap ((f.s.2.length:Int)+gi f.r.2 i)=(f.s.2.length:Int)+gi f.r.2 i)(hNN:f.s.2.length+f.f.2.length<N) :
  Jz (sA prog gl) gl N tX [fv f,qv f.s,iv f.r,rv f.f,rv f.n,.bool true,ie x,ie y] [.int .i64 0,.int .i64 (f.s.2.length:Int),qv f.s,iv f.r,rv f.f,rv f.n]=some (0,[.bool (P0 f.s.2.length f.r.2 (rowsOf f.f) (rowsOf f.n))]):=by
 have BS:∀i,i<f.n.2.length->cw (sA prog gl) gl N tW ([fv f,qv f.s,iv f.r,rv f.f,rv f.n,.bool true,ie x,ie y]++[.int .i64 (f.f.2.length:Int),.int .i64 (f.s.2.length:Int),qv f.s,iv f.r,rv f.f,rv f.n]++[.int .i64 (i:Int),.int .i64 (f.s.2.length:Int),qv f.s,iv f.r,rv f.f,rv f.n])=bif kS (yo f.s.2.length f.r.2 (gi f.r.2 i) (gr (rowsOf f.n) i)) (gr (rowsOf f.n) i).length then some (0,[.int .i64 ((i+1:Nat):Int),.int .i64 (f.s.2.length:Int),qv f.s,iv f.r,rv f.f,rv f.n]) else some (1,[.bool false]):=by
  intro i hi;obtain⟨q,hq⟩:∃q,f.n.2[i]?=some q:=⟨f.n.2[i],by simp[hi]⟩
  have h1:=K6 hi;have h2:=eR (h:=iv) hq;have h3:=xG (l:=f.r.2) (i:=i) (by omega)
  have h4:=Ph (i:=i) (by omega)
  rw[Xh hq];have hc:=ke (Xi ez f.s.2.length f AJ q (hf.ne.2 q (nF hq)) (gi f.r.2 i) (hN i (by omega)))
  simp only[TO,J8,NW] at hc;simp only[tW];cases hb:kS (yo f.s.2.length f.r.2 (gi f.r.2 i) q.2) q.2.length with
  | true =>
   rw[hb] at hc
   simp only[jM,jN,qV,qE,qX,qF,jG,jH,qz,jI,jf,aX,fo,eU,jd,je,qo,qy,qH,bt,bL,cj,qk,bB,qq,jq,fF,qK,qT,qA,qN,fK,jb,aV,aP,dW,bq,List.length_nil,ya,ww,h1,h2,h3,h4,hc,Ce,xF,Dn,Dp,yn,NV,eF,l9]
  | false =>
   rw[hb] at hc
   simp only[jM,qV,aZ,qD,qE,qX,qF,jG,jH,qz,jI,jf,aX,fo,fz,jd,je,qo,qy,qH,bt,bL,cj,qk,bB,qq,jq,fF,qK,jp,qT,qA,qN,jb,aV,aP,dW,bq,List.length_nil,ya,ww,h1,h2,h3,hc,Ce,xF,Dn,Dp,yn,NV,eF,l9]
 have oC:∀i,i<f.f.2.length->cw (sA prog gl) gl N tX ([fv f,qv f.s,iv f.r,rv f.f,rv f.n,.bool true,ie x,ie y]++[.int .i64 (i:Int),.int .i64 (f.s.2.length:Int),qv f.s,iv f.r,rv f.f,rv f.n])=bif kS (yo f.s.2.length f.r.2 (i:Int) (gr (rowsOf f.f) i)) (gr (rowsOf f.f) i).length then some (0,[.int .i64 ((i+1:Nat):Int),.int .i64 (f.s.2.length:Int),qv f.s,iv f.r,rv f.f,rv f.n]) else some (1,[.bool false]):=by
  intro i hi;obtain⟨q,hq⟩:∃q,f.f.2[i]?=some q:=⟨f.f.2[i],by simp[hi]⟩
  have h1:=K6 hi;have h2:=eR (h:=iv) hq;have h4:=Ph (i:=i) (by omega)
  rw[Xh hq];have hc:=ke (Xi ez f.s.2.length f AJ q (hf.fi.2 q (nF hq)) (i:Int) (JA (by omega) (by omega)))
  simp only[TO,J8,NW,ie] at hc;simp only[tX];cases hb:kS (yo f.s.2.length f.r.2 (i:Int) q.2) q.2.length with
  | true =>
   rw[hb] at hc
   simp only[jM,jN,qV,qE,qX,qF,jG,jH,qz,jI,jf,aX,fo,eU,jd,je,qo,qy,qH,bt,bL,cj,qk,bB,qq,jq,fF,qK,qT,qA,qN,fK,jb,aV,aP,zg,dW,bq,List.length_nil,ya,h1,h2,h4,hc,Ce,Dn,Dp,yn,eF,l9]
  | false =>
   rw[hb] at hc
   simp only[jM,qV,aZ,qD,qE,qX,qF,jG,jH,qz,jI,jf,aX,fo,fz,jd,je,qo,qy,qH,bt,bL,cj,qk,bB,qq,jq,fF,qK,jp,qT,qA,qN,jb,aV,aP,zg,dW,bq,List.length_nil,ya,h1,h2,hc,Ce,Dn,Dp,yn,eF,l9]
 have L2:Jz (sA prog gl) gl N tW ([fv f,qv f.s,iv f.r,rv f.f,rv f.n,.bool true,ie x,ie y]++[.int .i64 (f.f.2.length:Int),.int .i64 (f.s.2.length:Int),qv f.s,iv f.r,rv f.f,rv f.n]) [.int .i64 0,.int .i64 (f.s.2.length:Int),qv f.s,iv f.r,rv f.f,rv f.n]=some (0,[.bool (kS (λi=>kS (yo f.s.2.length f.r.2 (gi f.r.2 i) (gr (rowsOf f.n) i)) (gr (rowsOf f.n) i).length) f.s.2.length)]):=by
  refine Pj (ok:=λi=>kS (yo f.s.2.length f.r.2 (gi f.r.2 i) (gr (rowsOf f.n) i)) (gr (rowsOf f.n) i).length) (st:=λi=>[.int .i64 (i:Int),.int .i64 (f.s.2.length:Int),qv f.s,iv f.r,rv f.f,rv f.n]) (n:=f.n.2.length) (good:=[.bool true]) (bad:=[.bool false]) (λi hi ho=>by have:=BS i hi;rw[ho] at this;exact this) (λi hi ho=>by have:=BS i hi;rw[ho] at this;exact this) (λ_=>?_) (by omega) ?_
  ·have h1:=K7 (ek f.n.2.length);simp only[tW]
   simp only[jN,qV,aZ,qD,jG,jH,qo,qy,bt,bL,cj,qk,bB,qq,jp,qT,qN,ya,h1,eF]
  ·rw[gX];cases kS (λi=>kS (yo f.s.2.length f.r.2 (gi f.r.2 i) (gr (rowsOf f.n) i)) (gr (rowsOf f.n) i).length) f.s.2.length<;>rfl
 refine Pj (ok:=λi=>kS (yo f.s.2.length f.r.2 (i:Int) (gr (rowsOf f.f) i)) (gr (rowsOf f.f) i).length) (st:=λi=>[.int .i64 (i:Int),.int .i64 (f.s.2.length:Int),qv f.s,iv f.r,rv f.f,rv f.n]) (n:=f.f.2.length) (good:=[.bool (kS (λi=>kS (yo f.s.2.length f.r.2 (gi f.r.2 i) (gr (rowsOf f.n) i)) (gr (rowsOf f.n) i).length) f.s.2.length)]) (bad:=[.bool false]) (λi hi ho=>by have:=oC i hi;rw[ho] at this;exact this) (λi hi ho=>by have:=oC i hi;rw[ho] at this;exact this) (λ_=>?_) (by omega) ?_
 ·have h1:=K7 (ek f.f.2.length);simp only[cF,cq] at L2;simp only[tX]
  simp only[jN,aZ,qB,jG,jH,qo,qy,bt,bL,cj,qk,bB,qT,qN,ya,h1,L2,eF]
 ·simp only[P0,zcB];cases kS (λi=>kS (yo f.s.2.length f.r.2 (i:Int) (gr (rowsOf f.f) i)) (gr (rowsOf f.f) i).length) f.f.2.length<;>rfl
def acN(ez:GL gl)(f:F)(hf:WF f):Ev prog gl 24 [.d (fv f)] [] (.bool (J_ f.s.2.length f.r.2 (rowsOf f.f) (rowsOf f.n))) []:=by
 refine kR (xs:=[fv f]) ez.top (ez.no 24 rfl) E9 func24 (by kernel_rfl) zs2 (by simp[aI,zsq]) (N:=f.s.2.length+f.f.2.length+1) ?_
 have hr:=p6;simp only[HI,fv,fc,J_,zcB];cases hh:(((gx 1000 (f.s.2.length:Int) || gx 200 (f.f.2.length:Int)) || !((f.r.2.length:Int) == (f.s.2.length:Int))) || !((f.n.2.length:Int) == (f.s.2.length:Int))) with
 | true=>simp only[jN,qV,qD,a_,jG,jH,qz,aX,fo,eU,jd,qo,qy,bt,bL,cj,qk,bB,qq,jp,qP,qR,Ce,Dn,Dp,ww,ya,PY,hh,eF]
 | false =>
 have Qu:=hh;simp only[LJ,Bool.not_eq_false',beq_iff_eq] at Qu;obtain⟨⟨⟨g1,g2⟩,g3⟩,g4⟩:=Qu;have AJ:f.r.2.length=f.s.2.length:=by omega
 have gX:f.n.2.length=f.s.2.length:=by omega
 have g1:f.s.2.length<=1000:=by simp[gx] at g1;omega
 have g2:f.f.2.length<=200:=by simp[gx] at g2;omega
 have hs:=ke (ztl ez f.r hf.r.1);cases Xj:PZ f.r.2 with
 | false =>
  rw[Xj] at hs
  simp only[jM,qV,qD,a_,qX,qF,jG,jH,qz,jf,aX,fo,fz,jd,je,qo,qy,bt,bL,cj,qk,bB,qq,jq,fF,qK,jp,qA,qP,qR,aV,aP,Ce,Dn,Dp,ww,ya,PY,hh,hs,yn,eF]
 | true =>
 rw[Xj] at hs;rcases N3 f.s.2.length with h0|h0
 ·have h8:gx 0 (f.s.2.length:Int)=false:=Io (by omega)
  have L:=zs5 ez f hf (f.s.2.length+f.f.2.length+1) AJ gX g1 g2 (λi hi=>by omega) (by omega)
  simp only[fv,fc] at L
  simp only[jM,jN,a_,qX,qF,qB,jG,jH,qz,jf,aX,fo,eU,fz,jd,je,qo,qy,bt,bL,cj,qk,bB,qq,jq,fF,qK,qA,qP,qR,aV,aP,Ce,Dn,Dp,ww,ya,PY,hh,hs,h8,L,yn,Xf,Xg,eF]
 ·have h8:gx 0 (f.s.2.length:Int)=true:=ER (by omega)
  have B7:IntKind.i64.wrap ((f.s.2.length:Int) - 1)=((f.s.2.length - 1:Nat):Int):=by rw[JA (by omega) (by omega)];omega
  have h5:=xG (l:=f.r.2) (i:=0) (by omega)
  have h6:=xG (l:=f.r.2) (i:=f.s.2.length - 1) (by omega)
  have h00:gx 0 0=false:=by decide
  have t0:(0:Int).toNat=0:=rfl;cases C':gx (gi f.r.2 0) 0 with
  | true=>simp only[jM,jN,qV,qD,qE,a_,qX,qF,jG,jH,qz,jf,aX,fo,eU,fz,jd,je,qo,qy,bt,bL,cj,qk,bB,qq,jq,fF,qK,jp,qA,qN,qP,qR,aV,aP,Ce,Dn,Dp,xF,yT,ww,ya,PY,hh,hs,h8,h5,C',h00,t0,yn,eF]
  | false =>
  cases IF:EP (f.f.2.length:Int) (gi f.r.2 (f.s.2.length - 1)) with
  | true=>simp only[jM,jN,qV,qD,qE,a_,qX,qF,jG,jH,qz,jf,aX,fo,eU,fz,jd,je,qo,qy,bt,bL,cj,qk,bB,qq,jq,fF,qK,jp,qA,qN,qP,qQ,qR,fK,jb,aV,aP,Ce,Dn,Dp,xF,yT,ww,ya,PY,hh,hs,h8,h5,h6,B7,C',IF,h00,t0,yn,eF,l9]
  | false =>
   have hb:∀i,i<f.s.2.length->0<=gi f.r.2 i/\gi f.r.2 i<200:=λi hi=>by
    have b1:=ziw Xj (i:=0) (j:=i) (by omega) (by omega)
    have b2:=ziw Xj (i:=i) (j:=f.s.2.length - 1) (by omega) (by omega)
    have b3:0<=gi f.r.2 0:=by simpa[gx] using C'
    have b4:gi f.r.2 (f.s.2.length - 1)<(f.f.2.length:Int):=by simpa[EP] using IF
    omega
   have L:=zs6 ez f hf (f.s.2.length+f.f.2.length+1) (gi f.r.2 0) (gi f.r.2 (f.s.2.length - 1)) AJ gX g1 g2 (λi hi=>JA (by have:=hb i hi;omega) (by have:=hb i hi;omega)) (by omega)
   simp only[fv,fc] at L
   simp only[jM,jN,qE,a_,qX,qF,qB,jG,jH,qz,jf,aX,fo,eU,fz,jd,je,qo,qy,bt,bL,cj,qk,bB,qq,jq,fF,qK,qA,qN,qP,qQ,qR,fK,jb,aV,aP,Ce,Dn,Dp,xF,yT,ww,ya,PY,hh,hs,h8,h5,h6,B7,C',IF,h00,t0,L,yn,Xf,Xg,eF,l9]
end
end Go.Proofs.YthohlnmcjkjeiaaGreatDoor.A2
