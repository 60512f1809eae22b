/- Trees of bodies, as they are told of the program's code. Conditions: none but those named. -/
import Derived.Test.YthohlnmcjkjeiaaGreatDoorVmV
set_option linter.defProp false
namespace Go.Proofs.YthohlnmcjkjeiaaGreatDoor
open Go Go.Vm Go.Vm.Sx
open Go.Proofs.Tryz
set_option maxRecDepth 100000
def hs4:List (Nat×JS):=[(16378,⟨[(9,(.one (.sl 21))),(10,(.one (.int .i64))),(18,.drop),(19,.drop),(20,.drop),(21,.drop),(22,.drop),(23,.drop),(24,.drop),(25,.drop),(50,.drop),(51,.drop),(52,.drop),(53,.drop),(56,.drop),(61,.drop),(62,.drop),(69,.drop),(70,.drop),(78,.drop),(83,.drop),(84,.drop),(85,.drop),(86,.drop),(87,.drop),(88,.drop),(89,.drop),(90,.drop)],[]⟩),
 (250,⟨[(2,(.one (.sl 21))),(3,(.one (.int .i64)))]++dR 16 10,[]⟩)]
def Em:Tree :=
 (.ite (.cmp .lss (.var 63) (.lit (200)))
                      (.dg (.sc (.agg [(.v 33 true),(.v 34 true),(.v 35 true),(.v 36 true),(.v 37 true),(.v 38 true),(.v 39 true),(.v 40 true),(.v 41 true),(.v 42 true),(.b (.lit false)),(.i .i64 (.lit (0))),(.i .i64 (.lit (0))),(.i .u64 (.lit (0))),(.i .u64 (.lit (0))),(.i .u64 (.lit (0))),(.i .u64 (.lit (0))),(.s (.lit [])),(.i .i64 (.lit (0))),(.i .i64 (.lit (0))),(.k .aJ)]))
                      (.ny (.own 62 55)
                      (.ny (.room (.snoc (.var 62) 64) 216)
                      (.out [(.sl 21 (.snoc (.var 62) 64) (.yes 55)),(.i .i64 (.bin .add .i64 (.var 63) (.lit (1))))]))))
                      (.oR
                       (.call 14 [(.d (.one (.v 62 true)))] [] []
                       (.MA 64 [.raw,.fq]
                       (.uf 65 [(.sl 4),(.sl 1),(.sl 1),(.sl 1)]
                       (.dg (.sc (.agg [(.v 33 true),(.v 34 true),(.v 35 true),(.v 36 true),(.v 37 true),(.v 38 true),(.v 39 true),(.v 40 true),(.v 41 true),(.v 42 true),(.b (.lit false)),(.i .i64 (.lit (0))),(.i .i64 (.lit (0))),(.i .u64 (.lit (0))),(.i .u64 (.lit (0))),(.i .u64 (.lit (0))),(.i .u64 (.lit (0))),(.s (.lit [])),(.i .i64 (.lit (0))),(.i .i64 (.lit (0))),(.k .aJ)]))
                       (.ny (.own 62 55)
                       (.ny (.room (.snoc (.var 62) 71) 216)
                       (.call 14 [(.d (.one (.sl 21 (.snoc (.var 62) 71) .no)))] [] []
                       (.MA 72 [.raw,.fq]
                       (.uf 73 [(.sl 4),(.sl 1),(.sl 1),(.sl 1)]
                       (.ite (.and (.cV 66) (.cmp .eql (.len (.var 69)) (.lit (200))))
                         (.call 24 [(.d (.agg [(.v 67 true),(.v 68 true),(.v 69 true),(.v 70 true)]))] [] []
                         (.gv 79 .bool
                         (.ite (.var 79)
                           (.call 23 [(.d (.one (.i .i64 (.lit (15)))))] [] []
                           (.uf 80 [(.int .i64),(.int .i64),(.int .i64),(.int .i64),(.sl 1)]
                           (.call 15 [(.d (.one (.v 74 true))),(.d (.agg [(.v 81 false),(.v 82 false),(.v 83 false),(.v 84 false),(.v 85 false)]))] [] []
                           (.gv 86 .bool
                           (.ite (.var 86)
                             (.call 20 [] [] []
                             (.gv 87 .bool
                             (.dg (.sc (.one (.v 87 true)))
                             (.out [(.v 88 false)]))))
                             (.dg (.sc (.one (.b (.lit false))))
                             (.out [(.v 87 false)])))))))
                           (.dg (.sc (.one (.b (.lit false))))
                           (.out [(.v 80 false)])))))
                         (.dg (.sc (.one (.b (.lit false))))
                         (.out [(.v 79 false)]))))))))))))))
def HM:Tree :=
 (.ite (.cmp .lss (.var 2) (.lit (10)))
       (.elem (.var 0) (.lit (0))
       (.uf 3 [(.int .i64),(.int .i64),(.int .u64),(.int .u64),(.int .u64),(.int .u64),.str,(.int .i64),(.int .i64),(.sl 10),.bool,(.int .i64),(.int .i64),(.int .u64),(.int .u64),(.int .u64),(.int .u64),.str,(.int .i64),(.int .i64),(.sl 10)]
       (.dg (.sc (.agg [(.v 4 false),(.v 5 false),(.v 6 false),(.v 7 false),(.v 8 false),(.v 9 false),(.v 10 false),(.v 11 false),(.v 12 false),(.v 13 false),(.v 14 false),(.v 15 false),(.v 16 false),(.v 17 false),(.v 18 false),(.v 19 false),(.v 20 false),(.v 21 false),(.v 22 false),(.v 23 false),(.v 24 false)]))
       (.ny (.own 1 55)
       (.ny (.room (.snoc (.var 1) 25) 216)
       (.out [(.sl 21 (.snoc (.var 1) 25) (.yes 55)),(.i .i64 (.bin .add .i64 (.var 2) (.lit (1))))]))))))
       (.oR
        (.call 14 [(.d (.one (.v 1 true)))] [] []
        (.MA 3 [.raw,.fq]
        (.uf 4 [(.sl 4),(.sl 1),(.sl 1),(.sl 1)]
        (.elem (.var 0) (.lit (0))
        (.uf 10 [(.int .i64),(.int .i64),(.int .u64),(.int .u64),(.int .u64),(.int .u64),.str,(.int .i64),(.int .i64),(.sl 10),.bool,(.int .i64),(.int .i64),(.int .u64),(.int .u64),(.int .u64),(.int .u64),.str,(.int .i64),(.int .i64),(.sl 10)]
        (.elem (.var 20) (.lit (0))
        (.uf 32 Bl
        (.dg (.sc (.agg [(.v 33 true),(.v 34 true),(.v 35 true),(.v 36 true),(.v 37 true),(.v 38 true),(.v 39 true),(.v 40 true),(.v 41 true),(.v 42 true),(.b (.lit false)),(.i .i64 (.lit (0))),(.i .i64 (.lit (0))),(.i .u64 (.lit (0))),(.i .u64 (.lit (0))),(.i .u64 (.lit (0))),(.i .u64 (.lit (0))),(.s (.lit [])),(.i .i64 (.lit (0))),(.i .i64 (.lit (0))),(.k .aJ)]))
        (.ny (.own 1 55)
        (.ny (.room (.snoc (.var 1) 43) 216)
        (.call 14 [(.d (.one (.sl 21 (.snoc (.var 1) 43) .no)))] [] []
        (.MA 44 [.raw,.fq]
        (.uf 45 [(.sl 4),(.sl 1),(.sl 1),(.sl 1)]
        (.ite (.not (.or (.not (.cV 5)) (.not (.cmp .eql (.len (.var 6)) (.lit (1000))))))
          (.call 22 [(.d (.agg [(.v 6 true),(.v 7 true),(.v 8 true),(.v 9 true)]))] [] []
          (.gv 51 .bool
          (.ite (.var 51)
            (.elem (.var 9) (.lit (999))
            (.gv 52 (.sl 1)
            (.ite (.cmp .eql (.len (.var 52)) (.lit (1)))
              (.elem (.var 9) (.lit (999))
              (.gv 53 (.sl 1)
              (.elem (.var 53) (.lit (0))
              (.gv 54 (.int .i64)
              (.ite (.cmp .eql (.var 54) (.lit (1009)))
                (.call 23 [(.d (.one (.i .i64 (.lit (9)))))] [] []
                (.uf 55 [(.int .i64),(.int .i64),(.int .i64),(.int .i64),(.sl 1)]
                (.call 15 [(.d (.one (.v 46 true))),(.d (.agg [(.v 56 false),(.v 57 false),(.v 58 false),(.v 59 false),(.v 60 false)]))] [] []
                (.gv 61 .bool
                (.ite (.not (.var 61))
                  (.dg (.sc (.one (.b (.lit false))))
                  (.out [(.v 62 false)]))
                  (.loop [(.k .aJ),(.i .i64 (.lit (0)))] Em))))))
                (.dg (.sc (.one (.b (.lit false))))
                (.out [(.v 55 false)])))))))
              (.dg (.sc (.one (.b (.lit false))))
              (.out [(.v 53 false)])))))
            (.dg (.sc (.one (.b (.lit false))))
            (.out [(.v 52 false)])))))
          (.dg (.sc (.one (.b (.lit false))))
          (.out [(.v 51 false)]))))))))))))))))))
def LF:Tree :=
 (.call 21 [(.d (.one (.s (.lit [114,117,108,101,32,34,97,34,123,49,48,48,125,32,61,62,32,116]))))] [] []
 (.gv 0 (.sl 21)
 (.ite (.not (.cmp .eql (.len (.var 0)) (.lit (1))))
   (.dg (.sc (.one (.b (.lit false))))
   (.out [(.v 1 false)]))
   (.loop [(.k .aJ),(.i .i64 (.lit (0)))] HM))))
def acU:List (Nat×JS):=[]
def HN:Tree :=
 (.gv 0 (.int .i64)
 (.dg (.sc (.agg [(.v 0 true),(.i .i64 (.lit (0))),(.i .i64 (.lit (0))),(.i .i64 (.lit (0))),(.k .aJ)]))
 (.out [(.v 1 false)])))
def HO:z_ prog hs4 4=some LF:=by kernel_rfl
def E_:z_ prog acU 23=some HN:=by kernel_rfl
section
open Classical in
noncomputable def Xl(args:aA):cP:=if ∃F,W9 F/\args=[uh F] then some (.bool true) else none
open Classical in
noncomputable def P1(args:aA):cP:=if args=[E6,Eh 9]\/args=[E5,Eh 15] then some (.bool true) else none
open Classical in
noncomputable def Li(args:aA):cP:=if args=LB then some TF else none
noncomputable def rY:Gl:={ g:=J5,hk:=λf args=>if Nat.beq f 22 then Xl args else if Nat.beq f 15 then P1 args else if Nat.beq f 21 then Li args else PW.hk f args }
def acV:xO prog Bp A8:=xj mixed nZ lM zgI (zlb 0) rfl rfl (hit:=λ_ _ _ Aq h=>by rw[PV Aq] at h;cases h)
def acW:xO prog Bp ((21,LB,TF)::A8):=xj mixed nZ lM acV (znB 0) rfl (by rw[LC];exact Tk _ _) (hit:=λ_ _ _ Aq h=>by rw[PV Aq] at h;cases h)
def hkF:sG prog rY:=by
 refine⟨λf args v h d H g w bx lc h1 h2 h3=>?_,λn f args H out H' h=>(by cases h),λ_ _ _ _ h=>(by cases h)⟩
 simp only[rY] at h;split at h
 ·rename_i hf;obtain rfl:f=22:=gy hf;unfold Xl at h;split at h
  next hex=>obtain⟨F,hR,rfl⟩:=hex;cases h;obtain⟨n,H',cX⟩:=zk7 hR;exact Q5 mixed nZ lM IC cX (by simp[aI,zpp]) rfl (zpN h1) h2 h3
  ·cases h
 ·split at h
  ·rename_i hf;obtain rfl:f=15:=gy hf;unfold P1 at h;split at h
   ·rename_i hex;cases h;rcases hex with rfl|rfl
    ·exact Q5 mixed nZ lM hkE (zs1 0) rfl rfl h1 h2 h3
    ·exact Q5 mixed nZ lM hkE (zsn 0) rfl rfl h1 h2 h3
   ·cases h
  ·split at h
   ·rename_i hf;obtain rfl:f=21:=gy hf;unfold Li at h;split at h
    next hex=>subst hex;cases h;exact acW.pure 21 LB TF (by simp only[pQ];rfl) d H g w bx lc (zpN h1) h2 h3
    ·cases h
   ·exact HW.pure f args v h d H g w bx lc (zpN h1) h2 h3
instance : mw rY:=⟨λ_=>rfl,λ_ _ _ _=>rfl⟩
def TY:GL rY where
 top:=J6
 no:=λf hf args=>by
  have Ez:=hf;simp only[List.any_cons,List.any_nil,fD,LJ] at hf;have h1:=GL1.no f Ez args;simp only[rY,hf.2.1,hf.2.2.2.2.1,hf.2.2.2.1,dF,bZ];exact h1
def Xm{nl:Bool}{l:List Cr}(h:Bq l):Ev prog rY 14 [.d (jk nl l)] [] (bV l) [] :=
 Sx.Ev.EN (xs:=[jk nl l]) (show rY.hk 14 [jk nl l]=some (bV l) from zmf h) (zsj l)
def zs9{F:Fo}(h:W9 F):Ev prog rY 22 [.d (uh F)] [] (.bool true) [] :=
 Sx.Ev.EN (xs:=[uh F]) (show rY.hk 22 [uh F]=some (.bool true) from by
  show Xl [uh F]=_;unfold Xl
  rw[if_pos ⟨F,h,rfl⟩]) rfl
def TZ:Ev prog rY 15 [.d E6,.d (Eh 9)] [] (.bool true) [] :=
 Sx.Ev.EN (xs:=[E6,Eh 9]) (show rY.hk 15 [E6,Eh 9]=some (.bool true) from by
  show P1 _=_;unfold P1
  rw[if_pos (.inl rfl)]) rfl
def T0:Ev prog rY 15 [.d E5,.d (Eh 15)] [] (.bool true) [] :=
 Sx.Ev.EN (xs:=[E5,Eh 15]) (show rY.hk 15 [E5,Eh 15]=some (.bool true) from by
  show P1 _=_;unfold P1
  rw[if_pos (.inr rfl)]) rfl
def T1:Ev prog rY 21 [.d (.str [114,117,108,101,32,34,97,34,123,49,48,48,125,32,61,62,32,116])] [] (jk false [cB]) [] :=
 Sx.Ev.EN (xs:=LB) (show rY.hk 21 LB=some (jk false [cB]) from by
  show Li _=_;unfold Li
  rw[if_pos rfl,LC]) (Tk _ _)
def acX:vG prog [] [] 0:=trivial
def zta{x:V}:vG prog [3] [.d x] 0:=by
 refine⟨λe=>?_,trivial⟩;rw[underlying3];simp
def zto(k:Int):Ev prog rY 23 [.d (.int .i64 k)] [] (Eh k) []:=by
 refine kR (xs:=[.int .i64 k]) TY.top (TY.no 23 rfl) E_ func23 (by kernel_rfl) zta (by simp[aI,V.top]) (N:=1) ?_
 simp only[HN,Eh];simp only[qV,qD,qX,jG,jH,jI,qo,qy,bL,qk,bB,qq,jp,zg]
def zrw{l:List Cr}(h:Bq l)(he:bE l=.cV):bV l=.bz [uh (kD l),.cV]:=by
 rw[bV,(zsY h he).1,he];rfl
def xI(w:V):V:=.agg [.int .i64 5,.int .i64 0,.int .u64 0,.int .u64 0,.int .u64 0,.int .u64 0,.str [],.int .i64 0,.int .i64 0,w,.bool false,.int .i64 0,.int .i64 0,.int .u64 0,.int .u64 0,.int .u64 0,.int .u64 0,.str [],.int .i64 0,.int .i64 0,.aJ]
def lY:V:=.agg [.int .i64 2,.int .i64 0,.int .u64 0,.int .u64 8589934592,.int .u64 0,.int .u64 0,.str [],.int .i64 0,.int .i64 0,.aJ,.bool false,.int .i64 0,.int .i64 0,.int .u64 0,.int .u64 0,.int .u64 0,.int .u64 0,.str [],.int .i64 0,.int .i64 0,.aJ]
def ztp{w:V}{F G:Fo}(hw:fh (.sl 10) w=true)(_WH:aT w=w)(DI:nth (vL w) 0=some (.agg [.int .i64 2,.int .i64 0,.int .u64 0,.int .u64 8589934592,.int .u64 0,.int .u64 0,.str [],.int .i64 0,.int .i64 0,.aJ]))
  (T2:sA prog rY 21 [.d (.str [114,117,108,101,32,34,97,34,123,49,48,48,125,32,61,62,32,116])] []=some (.sl 21 [xI w] .no,[]))
  (ID:sA prog rY 14 [.d (lv 21 true (List.replicate 10 (xI w)))] []=some (.bz [uh F,.cV],[]))
  (Di:sA prog rY 14 [.d (.sl 21 (List.replicate 10 (xI w)++[lY]) .no)] []=some (.bz [.agg zF,E6],[]))
  (Fa:sA prog rY 14 [.d (lv 21 true (List.replicate 200 lY))] []=some (.bz [uh G,.cV],[]))
  (Dq:sA prog rY 14 [.d (.sl 21 (List.replicate 200 lY++[lY]) .no)] []=some (.bz [.agg zF,E5],[]))
  (Xn:sA prog rY 22 [.d (uh F)] []=some (.bool true,[])) (Xo:sA prog rY 24 [.d (uh G)] []=some (.bool true,[]))
  (hs:F.s.length=1000) (hn:nth (F.n.map nv) 999=some (nv [1009])) (hg:G.f.length=200):Ev prog rY 4 [] [] (.bool true) []:=by
 refine kR (xs:=[]) TY.top (TY.no 4 rfl) HO func4 (by kernel_rfl) acX rfl (N:=300) ?_
 have ea:=ke TZ;have eb:=ke T0;have e23:=λk=>ke (zto k);have e20:sA prog rY 20 [] []=some (.bool true,[]):=ke (Sx.Ev.EN (xs:=[]) rfl rfl);have Sy:aT (acc 21 55 (List.replicate 10 (xI w)))=lv 21 true (List.replicate 10 (xI w)):=zh6 ..;have NZ:aT (acc 21 55 (List.replicate 200 lY))=lv 21 true (List.replicate 200 lY):=zh6 ..;have z0:gx 0 0=false:=rfl
 have z1:Int.toNat 0=0:=rfl;have z2:((1:Int) == 1)=true:=rfl;have Bf:nth [xI w] 0=some (xI w):=rfl;simp only[xI] at Bf T2;simp only[LF]
 simp only[qX,qF,jG,f_,aX,fo,jd,qy,dH,bB,qq,jq,fF,qK,aV,aP,T2]
 refine Sh (st:=λi=>[acc 21 55 (List.replicate i (xI w)),.int .i64 (i:Int)]) (m:=10) (λi hi=>?_) ?_ (by decide)
 ·have h1:gx (i:Int) 10=true:=ER (by omega)
  have h4:=We (i:=i) (by omega)
  have h5:kr (i+1) 216=true:=Sx.eP (by omega) (by omega)
  rw[List.replicate_succ',<- zfP];simp only[Bl,HM]
  simp only[jM,qC,qV,qD,qE,a_,jG,jH,qz,jI,jJ,jf,jK,aX,fo,jd,je,qo,qy,bt,bL,cj,qk,bB,qq,jp,qT,jg,qN,fK,bq,List.length_nil,h1,h4,h5,Bf,hw,z0,z1,Sk,Sj,xI,bY,LI]
 ·have h1:gx ((10:Nat):Int) 10=false:=rfl;have q1:=Si 21 55 (List.replicate 10 (xI w));have q2:=Sk 21 55 (List.replicate 10 (xI w));have q3:=Sj 21 55 (List.replicate 10 (xI w));have q4:(List.replicate 10 (xI w)).length=10:=rfl;generalize lv 21 true (List.replicate 10 (xI w))=v10 at Sy ID;generalize acc 21 55 (List.replicate 10 (xI w))=A10 at Sy q1 q2 q3 ⊢
  generalize List.replicate 10 (xI w)=L10 at Di q3 q4;have r1:kr (10+1) 216=true:=by decide
  have zF1:zF=[.aJ,.aJ,.aJ,.aJ]:=rfl;have hs':(((F.s.map SM).length:Nat):Int)=1000:=by rw[eF,hs];rfl
  have m0:gx 999 0=false:=rfl;have m1:Int.toNat 999=999:=rfl;have hv9:vL (nv [1009])=[.int .i64 1009]:=rfl;have KV:nth [V.int .i64 1009] 0=some (.int .i64 1009):=rfl;simp only[Eh] at ea eb e23;have b1:((1000:Int) == 1000)=true:=rfl;have b2:(((1:Nat):Int) == 1)=true:=rfl;have b3:((1009:Int) == 1009)=true:=rfl;rw[zF1] at Di Dq;simp only[lY] at Di;simp only[uh,Bo] at ID Xn
  have x1:∀a b c d:V,fh .raw (.agg [a,b,c,d])=true:=λ_ _ _ _=>rfl;have x2:fh .fq .cV=true:=rfl;have x3:fh .fq E6=true:=rfl;have x4:fh .fq E5=true:=rfl;have x5:aT E6=E6:=rfl;have x6:aT E5=E5:=rfl;simp only[Bl,Nat.reduceAdd,HM]
  simp only[jM,jN,qC,aZ,qD,qE,a_,bg,qX,qF,qB,jG,jH,qz,jI,jJ,jf,jK,aX,fo,fD,eU,fz,jd,je,qo,qy,bt,bL,dH,cj,qk,bB,qq,jq,fF,qK,jp,qT,qA,jg,qN,qR,aV,aP,zg,zr,ai,bq,List.length_nil,x1,x2,x3,x5,h1,Bf,hw,DI,z0,z1,m0,m1,q2,q3,q4,Sy,ID,Di,Xn,e23,r1,zrq,WM,zpn,zpo,WN,hn,hv9,KV,hs',b1,b2,b3,ea,PO,Lt,v6,tF,bY]
  generalize hX:Jz _ _ _ Em _ _=X
  suffices hx:X=some (0,[V.bool true]) by rw[hx]
  rw[<- hX];clear hX X;obtain⟨st,eM⟩:∃st:Nat->aA,st=λi=>[acc 21 55 (List.replicate i lY),.int .i64 (i:Int)]:=⟨_,rfl⟩;have st0:[V.aJ,V.int .i64 0]=st 0:=by rw[eM];rfl
  rw[st0];refine Sh (m:=200) (λi hi=>?_) ?_ (by decide)
  all_goals rw[eM]
  ·have h1:gx (i:Int) 200=true:=ER (by omega)
   have h4:=We (i:=i) (by omega)
   have h5:kr (i+1) 216=true:=Sx.eP (by omega) (by omega)
   dsimp only
   rw[List.replicate_succ',<- zfP];simp only[Em]
   simp only[jM,qC,qV,qD,jG,jH,qo,qy,bt,bL,dH,cj,qk,bB,qq,jp,qT,qN,fK,zg,zr,ai,bq,List.length_nil,h1,h4,h5,Sk,Sj,lY,bY,LI]
  ·dsimp only
   have h1:gx ((200:Nat):Int) 200=false:=rfl;have q1:=Si 21 55 (List.replicate 200 lY);have q2:=Sk 21 55 (List.replicate 200 lY);have q3:=Sj 21 55 (List.replicate 200 lY);have q4:(List.replicate 200 lY).length=200:=rfl;generalize lv 21 true (List.replicate 200 lY)=T3 at NZ Fa;generalize acc 21 55 (List.replicate 200 lY)=arW at NZ q1 q2 q3 ⊢
   generalize List.replicate 200 lY=arX at Dq q3 q4;have r1:kr (200+1) 216=true:=by decide
   have Kr:(((G.f.map nv).length:Nat):Int)=200:=by rw[eF,hg];rfl
   have b1:((200:Int) == 200)=true:=rfl;simp only[lY] at Dq;simp only[uh,Bo] at Fa Xo;simp only[Em]
   simp only[jM,jN,qC,qV,aZ,qD,a_,bg,qX,qF,jG,jH,qz,jI,jf,jK,aX,fo,jd,qo,qy,bt,bL,dH,cj,qk,bB,qq,jq,fF,qK,jp,qT,qA,qN,qR,aV,aP,zg,zf,zr,ai,bq,List.length_nil,x1,x2,x4,x6,h1,q2,q3,q4,NZ,Fa,Dq,Xo,e23,e20,r1,zrq,WM,zpn,WN,Kr,b1,eb,PO,Lt,v6,tF,bY]
def zmq(sz:Nat)(l:aA)(a:V):lv sz true (l++[a])=.sl sz (l++[a]) .no:=by cases l<;>rfl
def wB:V:=yH false (fy (List.replicate 100 Cf))
def crB:Bn cB=xI wB:=rfl
def crO:Bn cO=lY:=rfl
def wB0:nth (vL wB) 0=some (.agg [.int .i64 2,.int .i64 0,.int .u64 0,.int .u64 8589934592,.int .u64 0,.int .u64 0,.str [],.int .i64 0,.int .i64 0,.aJ]):=rfl
def v10:jk true Al=lv 21 true (List.replicate 10 (xI wB)):=by rw[vH,Al,List.map_replicate,crB]
def v11:jk true (Al++[cO])=.sl 21 (List.replicate 10 (xI wB)++[lY]) .no:=by rw[vH,Al,List.map_append,List.map_replicate,crB,bW,cM,crO,zmq]
def T3:jk true fG=lv 21 true (List.replicate 200 lY):=by rw[vH,fG,List.map_replicate,crO]
def ac1:jk true (fG++[cO])=.sl 21 (List.replicate 200 lY++[lY]) .no:=by rw[vH,fG,List.map_append,List.map_replicate,bW,cM,crO,zmq]
def v1:jk false [cB]=.sl 21 [xI wB] .no:=by rw[vH,bW,cM,crB];rfl
def ev4:Ev prog rY 4 [] [] (.bool true) []:=by
 have T2:=ke T1;have ID:=ke (Xm (nl:=true) HJ);have Di:=ke (Xm (nl:=true) acP);have Fa:=ke (Xm (nl:=true) Am);have Dq:=ke (Xm (nl:=true) TR);obtain⟨hR,_,_⟩:=NO HJ J' (by simp[Al])
 obtain⟨_,LG,_⟩:=NO Am Ci (by simp[fG])
 have Xn:=ke (zs9 hR);have Xo:=ke (zpT TY);have hs:=zru;have hn:nth ((kD Al).n.map nv) 999=some (nv [1009]):=by rw[zV,mS,ztn];rfl
 rw[v1] at T2;rw[zrw HJ J',v10] at ID;rw[zrw Am Ci,T3] at Fa;rw[bV,acR,acQ,v11] at Di;rw[bV,TV,TU,ac1] at Dq;have hl:fG.length=200:=by rw[fG,LI]
 rw[hl] at LG;generalize kD Al=F at *;generalize kD fG=G at *;exact ztp (yI _ _) jW wB0 T2 ID Di Fa Dq Xn Xo hs hn LG
def ac2:∃k H',qt prog rY k 4 [] ⟨[],[]⟩=some (.ret (.bool true),H'):=by
 obtain⟨k,hk⟩:=Sx.Ev.run (xs:=[]) ev4 ⟨[],[]⟩;exact⟨k,_,hk k (ek _)⟩
end
end Go.Proofs.YthohlnmcjkjeiaaGreatDoor
