/- Seat 7: expressions as data. Conditions: none but those named. -/
import Derived.Test.YtlnijcffanjieaaGreatDoorVmJ
import Derived.Test.YtlnijcffanjieaaGreatDoorVmK
set_option linter.defProp false
namespace Go.Proofs.YtlnijcffanjieaaGreatDoor
open Go Go.Vm
open Go.Proofs.Tryz
set_option maxRecDepth 100000
section
inductive E where
 |mk (op pl s0 s1 s2 s3:Int) (text:aR) (mn mx:Int) (nl:Bool) (args:List E)
def qS(nl:Bool)(l:aj):V:=if nl && l.isEmpty then .aU else .sl 10 l .no
mutual
def enc:E->V
 | .mk op pl s0 s1 s2 s3 text mn mx nl args=>.agg [.int .i64 op,.int .i64 pl,.int .u64 s0,.int .u64 s1,.int .u64 s2,.int .u64 s3,.str text,.int .i64 mn,.int .i64 mx,qS nl (bl args)]
def bl:List E->aj
 | []=>[]
 | e::es=>enc e::bl es
end
def aK:∀(l:List E),(bl l).length=l.length
 | []=>rfl
 | e::l=>by simp[bl,aK l]
def rq:∀(l:List E)(i:Nat),(bl l)[i]?=(l[i]?).map enc
 | [],i=>by simp[bl]
 | e::l,0=>by simp[bl]
 | e::l,i+1=>by simp[bl,rq l i]
def kn(nl:Bool)(l:aj):qS nl l=.sl 10 l .no\/(l=[]/\qS nl l=.aU):=by
 unfold qS;split
 next h=>rw[bN] at h;exact .inr ⟨by simpa using h.2,rfl⟩
 ·exact .inl rfl
def qg{nl:Bool}{l:aj}:aX (qS nl l)=qS nl l:=by
 rcases kn nl l with h|⟨_,h⟩<;>rw[h]<;>rfl
def Pb(a:E):aX (enc a)=enc a:=by cases a;rfl
def znO{nl:Bool}{l:aj}:(qS nl l).top=aA l:=by
 rcases kn nl l with h|⟨hl,h⟩<;>rw[h]
 ·rfl
 ·rw[hl];rfl
mutual
def cL:∀(e:E),(enc e).top=0
 | .mk op pl s0 s1 s2 s3 text mn mx nl args=>by
  simp only[enc,V.top,aA,znO,A9 args];rfl
def A9:∀(l:List E),aA (bl l)=0
 | []=>rfl
 | e::l=>by simp[bl,aA,cL e,A9 l]
end
def Gv{x:Int}(h1:-9223372036854775808<=x)(h2:x<=9223372036854775807):IntKind.i64.wrap x=x:=by
 simp only[IntKind.wrap,IntKind.bits,IntKind.signed];simp;omega
def Ek{i:Nat}(h:i<9223372036854775807):IntKind.i64.wrap ((i:Int)+1)=((i+1:Nat):Int):=by
 rw[Gv (by omega) (by omega)];omega
mutual
def Wf:E->Prop
 | .mk _ _ _ _ _ _ text _ _ _ args=>text.length<=maxLen/\args.length<=maxLen/\Jh args
def Jh:List E->Prop
 | []=>True
 | e::l=>Wf e/\Jh l
end
def Jh.mem{a:E}:∀{l:List E},Jh l->a∈l->Wf a
 | e::l,h,ha=>by
  rcases cS.1 ha with rfl|ha
  ·exact h.1
  ·exact Jh.mem h.2 ha
def iy:maxLen<=9223372036854775807:=by decide
mutual
def hg:E->Nat
 | .mk _ _ _ _ _ _ _ _ _ _ args=>Q9 args+args.length+2
def Q9:List E->Nat
 | []=>0
 | e::l=>max (hg e) (Q9 l)
end
def xI{a:E}:∀{l:List E},a∈l->hg a<=Q9 l
 | e::l,h=>by
  simp only[Q9];rcases cS.1 h with rfl|h
  ·exact FX _ _
  ·exact cR (xI h) (KF _ _)
end
section
open Go.Vm.Sx
def jg(nl:Bool)(l:aj):fm (.sl 10) (qS nl l)=true:=by
 rcases kn nl l with h|⟨_,h⟩<;>rw[h]<;>rfl
def zX(nl:Bool)(l:aj):vL (qS nl l)=l:=by
 rcases kn nl l with h|⟨h0,h⟩<;>rw[h]
 ·rfl
 ·rw[h0];rfl
def kS{l:List E}{i:Nat}{a:E}(h:l[i]?=some a):nth (bl l) i=some (enc a):=by rw[zf,rq,h];rfl
variable{gl:Gl}[ir gl]
structure GL(gl:Gl):Prop where
 top:∀g off v,gl g off=some v->v.top=0
 no:∀f,[12,14,16,23,24,26,28,29,30,32,33,36,37,38,39,58,54,55,56,82,83,61,91,31,60].any (Nat.beq f)=false->∀args,gl.hk f args=none
def Q_{x:V}:we prog [27] [.d x] 0:=by
 refine⟨λe=>?_,trivial⟩;rw[underlying27];simp
def zp9{x y:V}:we prog [27,3] [.d x,.d y] 0:=by
 refine⟨λe=>?_,λe=>?_,trivial⟩
 ·rw[underlying27];simp
 ·rw[underlying3];simp
def mT:E->Bool
 | .mk op pl s0 s1 s2 s3 text mn mx _ _=>((pl == 0 && sU text []) && (op == 2 || (s0 == 0 && (s1 == 0 && (s2 == 0 && s3 == 0))))) && (op == 7 || (mn == 0 && mx == 0))
def fX:E->Bool
 | .mk op _ _ _ _ _ _ mn mx _ args =>
  if op == 1 then (args.length:Int) == 0 else if op == 2 then (args.length:Int) == 0 else if op == 5 then gh 1 (args.length:Int) else if op == 6 then gh 1 (args.length:Int) else
  if op == 7 then (args.length:Int) == 1 && ((mn == 0 && mx == -1 || mn == 1 && mx == -1) || mn == 0 && mx == 1) else false
def zs3(cU:GL gl):∀(e:E),Ev prog gl 63 [.d (enc e)] [] (.bool (mT e)) []
 | .mk op pl s0 s1 s2 s3 text mn mx nl args=>by
  refine qv (xs:=[enc (.mk op pl s0 s1 s2 s3 text mn mx nl args)]) cU.top (cU.no 63 rfl) Gm func63 (by kernel_rfl) Q_ (by simp[aA,cL]) (N:=1) ?_
  simp only[gH,I_,enc];simp only[qq,qp,dM,jS,j8,qL,vz,xF,dL,oP,ku,zK,zT,bk,bG,gX,aG,bw,aQ,eo,qz,zjA,jE,Az,jg,mT]
def zs4(cU:GL gl):∀(e:E),Ev prog gl 64 [.d (enc e)] [] (.bool (fX e)) []
 | .mk op pl s0 s1 s2 s3 text mn mx nl args=>by
  refine qv (xs:=[enc (.mk op pl s0 s1 s2 s3 text mn mx nl args)]) cU.top (cU.no 64 rfl) Gn func64 (by kernel_rfl) Q_ (by simp[aA,cL]) (N:=1) ?_
  simp only[gH,Ja,enc,fX];cases h1:op == 1 with
  | true=>simp only[vi,qq,qp,dM,jS,j8,qL,vz,xF,dL,oP,ku,zK,zT,bk,bG,cV,aG,bw,aQ,eo,qz,jE,jg,zX,h1,aK,aT]
  | false =>
  cases h2:op == 2 with
  | true=>simp only[vi,w8,qq,qp,dM,jS,j8,qL,vz,xF,dL,oP,ku,zK,zT,bk,bG,cV,aG,bw,aQ,eo,qz,jE,jg,zX,h1,h2,aK,aT,aZ,bH]
  | false =>
  cases h3:op == 5 with
  | true=>simp only[vi,w8,qq,qp,dM,jS,j8,qL,vz,xF,dL,oP,ku,zK,zT,bk,bG,cV,aG,bw,aQ,eo,qz,wZ,jE,jg,zX,h1,h2,h3,aK,aT,aZ,bH]
  | false =>
  cases h4:op == 6 with
  | true=>simp only[vi,w8,qq,qp,dM,jS,j8,qL,vz,xF,dL,oP,ku,zK,zT,bk,bG,cV,aG,bw,aQ,eo,qz,wZ,jE,jg,zX,h1,h2,h3,h4,aK,aT,aZ,bH]
  | false =>
  cases h5:op == 7 with
  | true=>simp only[vi,w8,qq,qp,dM,jS,j8,qL,vz,xF,dL,oP,ku,zK,zT,bk,bG,cV,aG,bw,aQ,eo,qz,jE,jg,zX,h1,h2,h3,h4,h5,aK,aT,aZ,bH]
  | false=>simp only[w8,qq,qp,dM,jS,j8,qL,vz,xF,dL,oP,ku,zK,zT,bk,bG,aG,bw,aQ,eo,qz,jE,jg,h1,h2,h3,h4,h5,aZ,bH]
mutual
def fQ:E->Int->Int
 | .mk _ _ _ _ _ _ _ _ _ _ args,deep=>if gh 5000 deep then 1048576 else l9 (IntKind.i64.wrap (deep+1)) 1 args
def l9:Int->Int->List E->Int
 | _,n,[]=>n
 | d,n,a::l=>if gh n 1048576 then l9 d (IntKind.i64.wrap (n+fQ a d)) l else n
end
def zrU(cU:GL gl):∀(e:E),Wf e->∀d,Ev prog gl 10 [.d (enc e),.d (.int .i64 d)] [] (.int .i64 (fQ e d)) []
 | .mk op pl s0 s1 s2 s3 text mn mx nl args,hw=>by
  intro d;have Ik:=iy;have hlen:=hw.2.1;have de:∀i a,args[i]?=some a->∀d,rV prog gl 10 [.d (enc a),.d (.int .i64 d)] []=some (.int .i64 (fQ a d),[]):=λi a h d =>
   have ha:=oH h
   qM (zrU cU a (hw.2.2.mem ha) d)
  refine qv (xs:=[enc (.mk op pl s0 s1 s2 s3 text mn mx nl args),.int .i64 d]) cU.top (cU.no 10 rfl) Gr func10 (by kernel_rfl) zp9 (by simp[aA,cL];rfl) (N:=args.length+1) ?_
  have key:∀(l:List E)(i:Nat)(n:Int),args.drop i=l->∀k,l.length<k->xG (rV prog gl) gl (args.length+1) Eh
    [.agg [.int .i64 op,.int .i64 pl,.int .u64 s0,.int .u64 s1,.int .u64 s2,.int .u64 s3,.str text,.int .i64 mn,.int .i64 mx,qS nl (bl args)],.int .i64 d,.int .i64 op,.int .i64 pl,.int .u64 s0,.int .u64 s1,.int .u64 s2,.int .u64 s3,.str text,.int .i64 mn,.int .i64 mx,qS nl (bl args)]
    k [.int .i64 n,.int .i64 (i:Int)]=some (0,[.int .i64 (l9 (IntKind.i64.wrap (d+1)) n l)]):=by
   simp only[gH,hO,Nat.reduceAdd,Eh];intro l
   induction l with
   | nil =>
    intro i n hd k hk;obtain⟨k,rfl⟩:∃k',k=k'+1:=⟨k - 1,by omega⟩
    refine jl ?_;have h1:=Hw (wH hd);simp only[w8,qq,nh,qp,jS,j8,G3,zK,zT,bk,bG,cV,aG,bw,aQ,eo,qz,wc,zB,zX,h1,aK,l9]
   | cons a l ih =>
    intro i n hd k hk;obtain⟨k,rfl⟩:∃k',k=k'+1:=⟨k - 1,by omega⟩
    obtain⟨ha,hi,sA⟩:=wG hd;have h1:=Hv hi;cases h5:gh n 1048576 with
    | false =>
     refine jl ?_;simp only[w8,qq,nh,qp,jS,j8,Bool.and_false,zK,zT,bk,bG,cV,aG,bw,aQ,eo,qz,wc,zB,zX,h1,h5,aK,l9,aZ,bH]
    | true =>
    refine kP (vs:=[.int .i64 (IntKind.i64.wrap (n+fQ a (IntKind.i64.wrap (d+1)))),.int .i64 ((i+1:Nat):Int)]) ?_ (by simp only[l9,h5,aT];exact ih (i+1) _ sA k (by simp at hk;omega))
    have hc:=de i a ha;have h2:=kS ha;have h4:=Ek (i:=i) (by omega)
    obtain⟨An,DB,DC,DD,DE,DF,lR,DG,DH,nl',dU⟩:=a;simp only[enc] at hc h2;simp only[vi,qq,OV,dM,jv,vH,jS,j8,qL,vz,xF,dL,oP,ku,OP,zK,zT,bk,bG,cV,aG,bw,aQ,lK,BF,dY,qz,wc,fz,OS,cw,dI,jg,zX,h1,h2,h4,h5,hc,aK,rM]
  simp only[gH,Jd,enc,fQ];cases hd:gh 5000 d with
  | true=>simp only[vi,qq,qp,dM,jv,jS,j8,qL,vz,xF,dL,oP,ku,zK,zT,bk,bG,aG,bw,aQ,eo,qz,wZ,jg,hd,aT]
  | false =>
   simp only[w8,dM,jv,OT,jS,j8,qL,vz,xF,dL,oP,ku,zK,zT,bk,bG,aG,bw,qz,wZ,jg,hd,aZ,bH];exact kX (key args 0 _ (by simp) _ (by omega))
termination_by e=>hg e
decreasing_by simp only[hg];have:=xI ha;omega
mutual
def dg:E->Int->Int->Int->Bool×Int×Int
 | .mk op pl s0 s1 s2 s3 text mn mx nl args,d,n,s =>
  if (gh 65536 (IntKind.i64.wrap (n+1)) || gh 4096 d) then (false,IntKind.i64.wrap (n+1),s) else
  if mT (.mk op pl s0 s1 s2 s3 text mn mx nl args) then
   if fX (.mk op pl s0 s1 s2 s3 text mn mx nl args) then eE (IntKind.i64.wrap (d+1)) args (IntKind.i64.wrap (n+1)) (if op == 2 then IntKind.i64.wrap (s+1) else s)
   else (false,IntKind.i64.wrap (n+1),s)
  else (false,IntKind.i64.wrap (n+1),s)
def eE:Int->List E->Int->Int->Bool×Int×Int
 | _,[],n,s=>(true,n,s)
 | d,a::l,n,s=>if (dg a d n s).1 then eE d l (dg a d n s).2.1 (dg a d n s).2.2 else dg a d n s
end
def M5(e:E)(d:Int):List AV:=[.d (enc e),.d (.int .i64 d),.p 0 0,.p 1 0]
def LH(n s:Int):List (aj×ai):=[([.int .i64 n],3),([.int .i64 s],3)]
def Pc(r:Bool×Int×Int):List aj:=[[.int .i64 r.2.1],[.int .i64 r.2.2]]
def Pd:Kn prog f41.params.toList=some [(3,[.int .i64]),(3,[.int .i64])]:=by kernel_rfl
def zrV{x y:V}:we prog [27,3,86,86] [.d x,.d y,.p 0 0,.p 1 0] 0:=by
 refine⟨λe=>?_,λe=>?_,⟨3,underlying86⟩,rfl,rfl,⟨3,underlying86⟩,rfl,rfl,trivial⟩
 ·rw[underlying27];simp
 ·rw[underlying3];simp
def zrW(cU:GL gl):∀(e:E),Wf e->∀d n s,Ev prog gl 41 (M5 e d) (LH n s) (.bool (dg e d n s).1) (Pc (dg e d n s))
 | .mk op pl s0 s1 s2 s3 text mn mx nl args,hw=>by
  intro d n s;have Ik:=iy;have hlen:=hw.2.1;have de:∀i a,args[i]?=some a->∀d n s,rV prog gl 41 (M5 a d) (LH n s)=some (.bool (dg a d n s).1,Pc (dg a d n s)):=λi a h d n s =>
   have ha:=oH h
   qM (zrW cU a (hw.2.2.mem ha) d n s)
  refine zkE (N:=args.length+1) (znv cU.top) (cU.no 41 rfl) Gp func41 Pd (gQ:=M5 _ d) (by rw[params41];exact zrV) (fp:=LH n s) (show IX [(3,[.int .i64]),(3,[.int .i64])] (LH n s) from⟨rfl,rfl,rfl,rfl,rfl,rfl,trivial⟩) (λx hx=>?_) (show IM (LH n s) (Pc _) from⟨rfl,rfl,trivial⟩) ?_
  ·simp only[M5,cS,AV.d.injEq,reduceCtorEq,List.not_mem_nil,E1] at hx;rcases hx with rfl|rfl
   ·exact cL _
   ·rfl
  have key:∀(l:List E)(i:Nat)(n' s':Int),args.drop i=l->∀k,l.length<k->xG (rV prog gl) gl (args.length+1) BR
    [.agg [.int .i64 op,.int .i64 pl,.int .u64 s0,.int .u64 s1,.int .u64 s2,.int .u64 s3,.str text,.int .i64 mn,.int .i64 mx,qS nl (bl args)],.int .i64 d,.dx,.dx,.int .i64 n,.int .i64 s,.int .i64 op,.int .i64 pl,.int .u64 s0,.int .u64 s1,.int .u64 s2,.int .u64 s3,.str text,.int .i64 mn,.int .i64 mx,qS nl (bl args),.bool true,.bool true]
    k [.int .i64 (i:Int),.int .i64 n',.int .i64 s']=some (0,[.bool (eE (IntKind.i64.wrap (d+1)) l n' s').1,.int .i64 (eE (IntKind.i64.wrap (d+1)) l n' s').2.1,.int .i64 (eE (IntKind.i64.wrap (d+1)) l n' s').2.2]):=by
   simp only[gH,hO,Nat.reduceAdd,BR];intro l
   induction l with
   | nil =>
    intro i n' s' hd k hk;obtain⟨k,rfl⟩:∃k',k=k'+1:=⟨k - 1,by omega⟩
    refine jl ?_;have h1:=Hw (wH hd);simp only[w8,qq,nh,qp,jS,j8,zK,zT,bk,bG,cV,aG,bw,aQ,eo,qz,wc,zX,h1,aK,eE]
   | cons a l ih =>
    intro i n' s' hd k hk;obtain⟨k,rfl⟩:∃k',k=k'+1:=⟨k - 1,by omega⟩
    obtain⟨ha,hi,sA⟩:=wG hd;have h1:=Hv hi;have hc:=de i a ha (IntKind.i64.wrap (d+1)) n' s';have h2:=kS ha;have h4:=Ek (i:=i) (by omega)
    have hf:eE (IntKind.i64.wrap (d+1)) (a::l) n' s'=if (dg a (IntKind.i64.wrap (d+1)) n' s').1 then eE (IntKind.i64.wrap (d+1)) l (dg a (IntKind.i64.wrap (d+1)) n' s').2.1 (dg a (IntKind.i64.wrap (d+1)) n' s').2.2 else dg a (IntKind.i64.wrap (d+1)) n' s':=by simp only[eE]
    rw[hf];cases hp:(dg a (IntKind.i64.wrap (d+1)) n' s').1 with
    | false =>
     refine jl ?_;simp only[bH,aZ,hp];rw[hp] at hc;obtain⟨An,DB,DC,DD,DE,DF,lR,DG,DH,nl',dU⟩:=a;simp only[enc,M5,LH,Pc] at hc h2;simp only[vi,qq,nh,qp,OV,dM,jv,vH,jS,j8,qL,vz,xF,Lx,dL,oP,Dr,ku,OP,zK,zT,vJ,bk,bG,cV,aG,bw,aQ,lK,BF,dY,eo,qz,y4,wc,fz,OS,cw,dI,zB,wm,pP,fY,List.length_nil,jg,zX,qg,h1,h2,hc,aK,rM]
    | true =>
     simp only[aT];refine kP (vs:=[.int .i64 ((i+1:Nat):Int),.int .i64 (dg a (IntKind.i64.wrap (d+1)) n' s').2.1,.int .i64 (dg a (IntKind.i64.wrap (d+1)) n' s').2.2]) ?_ (ih (i+1) _ _ sA k (by simp at hk;omega))
     rw[hp] at hc;obtain⟨An,DB,DC,DD,DE,DF,lR,DG,DH,nl',dU⟩:=a;simp only[enc,M5,LH,Pc] at hc h2;simp only[vi,w8,qq,OV,dM,jv,vH,jS,j8,qL,vz,xF,Lx,dL,oP,pI,ku,OP,zK,zT,vJ,bk,bG,cV,aG,bw,aQ,lK,BF,dY,qz,y4,wc,fz,OS,cw,dI,zB,wm,pP,fY,List.length_nil,jg,zX,qg,h1,h2,h4,hc,aK,rM]
  have T7:=qM (zs3 cU (.mk op pl s0 s1 s2 s3 text mn mx nl args));have Xi:=qM (zs4 cU (.mk op pl s0 s1 s2 s3 text mn mx nl args));simp only[enc] at T7 Xi;simp only[gH,hO,Nat.reduceAdd,Jb,M5,LH,Pc,Ht,lM,iC,Bm,A6,enc,dg];cases h1:(gh 65536 (IntKind.i64.wrap (n+1)) || gh 4096 d) with
  | true=>simp only[w8,qq,qp,dM,jv,jS,j8,qL,vz,xF,dL,oP,pI,ku,zK,zT,vJ,bk,bG,aG,bw,aQ,eo,qz,wZ,fz,cw,jg,h1,aT]
  | false =>
  cases h2:mT (.mk op pl s0 s1 s2 s3 text mn mx nl args) with
  | false=>simp only[vi,w8,qq,qp,dM,jv,vH,jS,j8,qL,vz,xF,Lx,dL,oP,Dr,ku,zK,zT,vJ,bk,bG,aG,bw,aQ,lK,BF,dY,eo,qz,y4,wZ,fz,cw,dI,zB,wm,jg,qg,h1,T7,h2,aZ,bH]
  | true =>
  cases h3:fX (.mk op pl s0 s1 s2 s3 text mn mx nl args) with
  | false=>simp only[vi,qq,qp,dM,jv,vH,jS,j8,qL,vz,xF,Lx,dL,oP,Dr,ku,zK,zT,vJ,bk,bG,aG,bw,aQ,lK,BF,dY,eo,qz,y4,wZ,fz,cw,dI,zB,wm,jg,qg,h1,T7,Xi,h2,h3,aT,aZ,bH]
  | true =>
  cases az:op == 2 with
  | true =>
   simp only[vi,w8,dM,jv,vH,OT,jS,j8,qL,vz,xF,Lx,dL,oP,pI,Dr,ku,zK,zT,vJ,bk,bG,aG,bw,aQ,lK,BF,dY,qz,y4,wZ,jE,fz,cw,dI,zB,wm,jg,qg,h1,T7,Xi,h2,h3,az,aT,aZ,bH];exact kX (key args 0 _ _ (by simp) _ (by omega))
  | false =>
   simp only[vi,w8,dM,jv,vH,OT,jS,j8,qL,vz,xF,Lx,dL,oP,pI,Dr,ku,zK,zT,vJ,bk,bG,aG,bw,aQ,lK,BF,dY,qz,y4,wZ,jE,fz,cw,dI,zB,wm,jg,qg,h1,T7,Xi,h2,h3,az,aT,aZ,bH];exact kX (key args 0 _ _ (by simp) _ (by omega))
termination_by e=>hg e
decreasing_by simp only[hg];have:=xI ha;omega
end
section
open Go.Vm.Sx
abbrev fS:=Int×Int×Int×Int
def bI(s:fS):V:=.agg [.int .u64 s.1,.int .u64 s.2.1,.int .u64 s.2.2.1,.int .u64 s.2.2.2]
def AE(x:Int):Prop:=0<=x/\x<18446744073709551616
def lS(s:fS):Prop:=AE s.1/\AE s.2.1/\AE s.2.2.1/\AE s.2.2.2
instance(s:fS):Decidable (lS s):=by unfold lS AE;exact inferInstance
def xJ(s:fS)(i:Nat):Int:=if i=0 then s.1 else if i=1 then s.2.1 else if i=2 then s.2.2.1 else s.2.2.2
def qN(s:fS)(b:Nat):Bool:=(xJ s (b / 64)).toNat.testBit (b % 64)
def Gw(a b:Int):Int:=((a.toNat ||| b.toNat:Nat):Int)
def wL(s t:fS):fS:=(Gw s.1 t.1,Gw s.2.1 t.2.1,Gw s.2.2.1 t.2.2.1,Gw s.2.2.2 t.2.2.2)
def Xj{a b:Int}(ha:AE a)(hb:AE b):AE (Gw a b):=by
 obtain⟨a0,a1⟩:=ha;obtain⟨b0,b1⟩:=hb;have h1:a.toNat<2 ^ 64:=by omega
 have h2:b.toNat<2 ^ 64:=by omega
 have:=Nat.or_lt_two_pow h1 h2;unfold Gw AE;omega
def Pe{s t:fS}(hs:lS s)(ht:lS t):lS (wL s t):=⟨Xj hs.1 ht.1,Xj hs.2.1 ht.2.1,Xj hs.2.2.1 ht.2.2.1,Xj hs.2.2.2 ht.2.2.2⟩
def y7{s t:fS}(b:Nat):qN (wL s t) b=(qN s b || qN t b):=by
 have:∀i,xJ (wL s t) i=Gw (xJ s i) (xJ t i):=λi=>by unfold xJ wL;split<;>(try split)<;>(try split)<;>rfl
 unfold qN;rw[this];simp[Gw,Nat.testBit_or]
def u8w{x:Int}(h:0<=x)(h':x<256):IntKind.u8.wrap x=x:=by
 simp only[IntKind.wrap,IntKind.bits,IntKind.signed];simp;omega
def T8{x:Nat}(h:x<2 ^ 64):IntKind.u64.wrap (x:Int)=(x:Int):=by
 simp only[IntKind.wrap,IntKind.bits,IntKind.signed];simp;omega
def zs5{b:Nat}(h:b<256):fz .quo .u8 (b:Int) 64=((b / 64:Nat):Int):=by
 simp only[fz];rw[show(b:Int).tdiv 64=((b / 64:Nat):Int) by rw[Int.tdiv_eq_ediv_of_nonneg (by omega)];omega]
 exact u8w (by omega) (by omega)
def zs6{b:Nat}:fz .rem .u8 (b:Int) 64=((b % 64:Nat):Int):=by
 simp only[fz];rw[Int.tmod_eq_emod_of_nonneg (by omega)]
 omega
def Xk{a:Nat}(ha:a<2 ^ 64):(BitVec.ofInt 64 (a:Int)).toNat=a:=by
 simp[FV ha]
def zrX{a b:Nat}(ha:a<2 ^ 64)(hb:b<2 ^ 64):fz .and .u64 (a:Int) (b:Int)=((a &&& b:Nat):Int):=by
 have h0:((BitVec.ofInt 64 (a:Int) &&& BitVec.ofInt 64 (b:Int)).toNat)=a &&& b:=by
  rw[BitVec.toNat_and,Xk ha,Xk hb]
 have h:((BitVec.ofInt IntKind.u64.bits (a:Int) &&& BitVec.ofInt IntKind.u64.bits (b:Int)).toNat)=a &&& b:=h0;simp only[fz];rw[h,T8 (Nat.lt_of_le_of_lt Nat.and_le_left ha)]
def zs7{a b:Nat}(ha:a<2 ^ 64)(hb:b<2 ^ 64):fz .or .u64 (a:Int) (b:Int)=((a ||| b:Nat):Int):=by
 have h0:((BitVec.ofInt 64 (a:Int) ||| BitVec.ofInt 64 (b:Int)).toNat)=a ||| b:=by
  rw[BitVec.toNat_or,Xk ha,Xk hb]
 have h:((BitVec.ofInt IntKind.u64.bits (a:Int) ||| BitVec.ofInt IntKind.u64.bits (b:Int)).toNat)=a ||| b:=h0
 simp only[fz];rw[h,T8 (Nat.or_lt_two_pow ha hb)]
def Xl{a b:Int}(ha:AE a)(hb:AE b):fz .or .u64 a b=Gw a b:=by
 obtain⟨a0,a1⟩:=ha;obtain⟨b0,b1⟩:=hb;have:=zs7 (a:=a.toNat) (b:=b.toNat) (by omega) (by omega)
 rw[Int.toNat_of_nonneg a0,Int.toNat_of_nonneg b0] at this;exact this
def zqa{x:Int}{k:Nat}(h0:AE x)(hk:k<64):fz .shr .u64 x (k:Int)=((x.toNat >>> k:Nat):Int):=by
 obtain⟨a0,a1⟩:=h0;obtain⟨n,rfl⟩:∃n:Nat,x=(n:Int):=⟨x.toNat,by omega⟩
 simp only[fz];have:min ((k:Int).toNat) IntKind.u64.bits=k:=by
  show min ((k:Int).toNat) 64=k;omega
 rw[this,U_,rM];rw[Int.fdiv_eq_ediv_of_nonneg _ (by exact Int.le_of_lt (Int.pow_pos (by decide)))]
 push_cast
 rfl
def Xm{x:Int}{k:Nat}(h0:AE x)(hk:k<64):(fz .and .u64 (fz .shr .u64 x (k:Int)) 1 == 1)=x.toNat.testBit k:=by
 have h1:x.toNat<2 ^ 64:=by obtain⟨a0,a1⟩:=h0;omega
 rw[zqa h0 hk,show(1:Int)=((1:Nat):Int) from rfl,zrX (Nat.lt_of_le_of_lt (Nat.shiftRight_le _ _) h1) (by decide),Nat.and_one_is_mod]
 rw[Nat.testBit_eq_decide_div_mod_eq,U_];generalize x.toNat / 2 ^ k % 2=m
 by_cases e:m=1
 ·subst e;rfl
 ·simp only[e,decide_false];exact beq_false_of_ne (by omega)
variable{gl:Gl}[ir gl]
def zrY{x y:V}:we prog [24,5] [.d x,.d y] 0:=by
 refine⟨λe=>?_,λe=>?_,trivial⟩
 ·rw[underlying24];simp
 ·rw[underlying5];simp
def zs8(cU:GL gl)(s:fS)(hs:lS s)(b:Nat)(hb:b<256):Ev prog gl 17 [.d (bI s),.d (.int .u8 b)] [] (.bool (qN s b)) []:=by
 refine qv (xs:=[bI s,.int .u8 b]) cU.top (cU.no 17 rfl) Gs func17 (by kernel_rfl) zrY (by simp[aA,V.top,bI]) (N:=1) ?_
 have hm:b % 64<64:=Nat.mod_lt _ (by decide)
 have tH:gh ((b % 64:Nat):Int) 0=false:=yZ (by omega)
 have ru:Eg 0 ((b % 64:Nat):Int)=true:=OQ (by omega)
 obtain⟨r0,r1,r2,r3⟩:=hs;have e0:=Xm r0 hm;have e1:=Xm r1 hm;have e2:=Xm r2 hm;have e3:=Xm r3 hm;simp only[fz] at e0 e1 e2 e3;have q:=zs5 hb;have rm:=zs6 (b:=b);simp only[fz] at q rm;have hd:b / 64=0\/b / 64=1\/b / 64=2\/b / 64=3:=by omega
 have pg:∀n:Nat,b / 64=n->IntKind.u8.wrap ((b:Int).tdiv 64)=(n:Int):=λn h=>by rw[q,h]
 simp only[Je,bI,qN,xJ];rcases hd with h|h|h|h<;>simp only[h,Nat.reduceEqDiff,aT,aZ,PW]
 ·have q':IntKind.u8.wrap ((b:Int).tdiv 64)=0:=pg 0 h;simp only[vi,OU,qq,qp,dM,jv,jS,j8,qL,vz,dL,oP,ku,zK,zT,bk,bG,aG,bw,aQ,eo,qz,Q3,jE,fz,q',rm,ru,e0,Int.reduceBEq]
 ·have q':IntKind.u8.wrap ((b:Int).tdiv 64)=1:=pg 1 h;simp only[vi,w8,OU,qq,qp,dM,jv,jS,j8,qL,vz,dL,oP,ku,zK,zT,bk,bG,aG,bw,aQ,eo,qz,Q3,jE,fz,q',rm,ru,e1,Int.reduceBEq]
 ·have q':IntKind.u8.wrap ((b:Int).tdiv 64)=2:=pg 2 h;simp only[vi,w8,OU,qq,qp,dM,jv,jS,j8,qL,vz,dL,oP,ku,zK,zT,bk,bG,aG,bw,aQ,eo,qz,Q3,jE,fz,q',rm,ru,e2,Int.reduceBEq]
 ·have q':IntKind.u8.wrap ((b:Int).tdiv 64)=3:=pg 3 h;simp only[vi,w8,OU,qq,qp,dM,jv,jS,j8,qL,vz,dL,oP,ku,zK,zT,bk,bG,aG,bw,aQ,eo,qz,Q3,jE,fz,q',rm,ru,e3,Int.reduceBEq]
def zqb{x y:V}:we prog [24,24] [.d x,.d y] 0:=by
 refine⟨λe=>?_,λe=>?_,trivial⟩
 ·rw[underlying24];simp
 ·rw[underlying24];simp
def w1:IntKind.i64.wrap (0+1)=1:=by decide
def w2:IntKind.i64.wrap (1+1)=2:=by decide
def w3:IntKind.i64.wrap (2+1)=3:=by decide
def w4:IntKind.i64.wrap (3+1)=4:=by decide
def l04:gh 0 4=true:=rfl
def l14:gh 1 4=true:=rfl
def l24:gh 2 4=true:=rfl
def l34:gh 3 4=true:=rfl
def l44:gh 4 4=false:=rfl
def zrZ(cU:GL gl)(s t:fS)(hs:lS s)(ht:lS t):Ev prog gl 226 [.d (bI s),.d (bI t)] [] (bI (wL s t)) []:=by
 refine qv (xs:=[bI s,bI t]) cU.top (cU.no 226 rfl) Ej func226 (by kernel_rfl) zqb (by simp[aA,V.top,bI]) (N:=5) ?_
 obtain⟨a0,a1,a2,a3⟩:=hs;obtain⟨b0,b1,b2,b3⟩:=ht;have o0:=Xl a0 b0;have o1:=Xl a1 b1;have o2:=Xl a2 b2;have o3:=Xl a3 b3;simp only[fz] at o0 o1 o2 o3;simp only[FA,bI,wL];simp only[dM,OT,jS,j8,qL,vz,dL,oP,ku,zK,zT,bG,aG,bw,zB];refine kX ?_;refine kP (by simp only[oC];simp only[vi,qq,jS,j8,zK,zT,bk,bG,aG,bw,qz,wc,jE,fz,l04,w1,o0,Int.reduceBEq];rfl) ?_
 refine kP (by simp only[oC];simp only[vi,w8,qq,jS,j8,zK,zT,bk,bG,aG,bw,qz,wc,jE,fz,l14,w2,o1,Int.reduceBEq];rfl) ?_
 refine kP (by simp only[oC];simp only[vi,w8,qq,jS,j8,zK,zT,bk,bG,aG,bw,qz,wc,jE,fz,l24,w3,o2,Int.reduceBEq];rfl) ?_
 refine kP (by simp only[oC];simp only[vi,w8,qq,jS,j8,zK,zT,bk,bG,aG,bw,qz,wc,jE,fz,l34,w4,o3,Int.reduceBEq];rfl) ?_
 refine jl (by simp only[oC];simp only[w8,qq,nh,qp,jS,j8,zK,zT,bk,bG,aG,bw,aQ,eo,qz,wc,zB,l44])
def c_:fS:=(0,0,0,0)
def Gx:lS c_:=⟨⟨by decide,by decide⟩,⟨by decide,by decide⟩,⟨by decide,by decide⟩,⟨by decide,by decide⟩⟩
def wq(b:Nat):qN c_ b=false:=by
 have:xJ c_ (b / 64)=0:=by unfold xJ c_;split<;>(try split)<;>(try split)<;>rfl
 unfold qN;rw[this];simp
def Xn{x y:Int}(hx:AE x)(hy:AE y)(h:∀k,k<64->x.toNat.testBit k=y.toNat.testBit k):x=y:=by
 obtain⟨x0,x1⟩:=hx;obtain⟨y0,y1⟩:=hy;have:x.toNat=y.toNat:=by
  apply Nat.eq_of_testBit_eq;intro j;rcases iT j 64 with hj|hj
  ·exact h j hj
  ·have p:2 ^ 64<=2 ^ j:=Nat.pow_le_pow_right (by decide) hj
   rw[Nat.testBit_lt_two_pow (show x.toNat<2 ^ j by omega),Nat.testBit_lt_two_pow (show y.toNat<2 ^ j by omega)]
 omega
def Xo{s t:fS}(hs:lS s)(ht:lS t)(h:∀b,b<256->qN s b=qN t b):s=t:=by
 have key:∀i,i<4->∀k,k<64->(xJ s i).toNat.testBit k=(xJ t i).toNat.testBit k:=λi hi k hk=>by
  have:=h (64 * i+k) (by omega)
  unfold qN at this;rw[show(64 * i+k) / 64=i by omega,show(64 * i+k) % 64=k by omega] at this
  exact this
 obtain⟨a,b,c,d⟩:=s;obtain⟨a',b',c',d'⟩:=t;have e0:=Xn hs.1 ht.1 (key 0 (by decide))
 have e1:=Xn hs.2.1 ht.2.1 (key 1 (by decide))
 have e2:=Xn hs.2.2.1 ht.2.2.1 (key 2 (by decide))
 have e3:=Xn hs.2.2.2 ht.2.2.2 (key 3 (by decide))
 simp only at e0 e1 e2 e3;rw[e0,e1,e2,e3]
def ziJ{s:fS}(hs:lS s)(h:s≠c_):∃b,b<256/\qN s b=true:=by
 apply Classical.byContradiction;intro hn;refine h (Xo hs Gx λb hb=>?_);rw[wq];cases bY:qN s b with
 | false=>rfl
 | true=>exact absurd ⟨b,hb,bY⟩ hn
end
section
variable{gl:Gl}
structure GW(gl:Gl):Prop where
 uq:gl.uq=uR
 fB:∀n f args H,gl.fB n f args H=none
 has:∀s b,lS s->b<256->gl.hk 17 [bI s,.int .u8 (b:Nat)]=some (.bool (qN s b))
 uni:∀s t,lS s->lS t->gl.hk 226 [bI s,bI t]=some (bI (wL s t))
 hk:∀f args,(([44,45,67,98]++(List.range 22).map (·+270)).any (Nat.beq f))=true->gl.hk f args=none
def BS:qA prog 125 0=some 0:=by kernel_rfl
def rz:qA prog 125 1=some 4:=by kernel_rfl
def rA:qA prog 133 0=some 0:=by kernel_rfl
def tZ:qA prog 133 1=some 1:=by kernel_rfl
def LI:qA prog 133 2=some 2:=by kernel_rfl
def nj:qA prog 133 3=some 3:=by kernel_rfl
def t_:qA prog 137 0=some 0:=by kernel_rfl
def BT:qA prog 137 1=some 1:=by kernel_rfl
def ua:qA prog 137 2=some 2:=by kernel_rfl
def oD:qA prog 140 0=some 0:=by kernel_rfl
def BU:qA prog 140 1=some 1:=by kernel_rfl
def LJ:qA prog 140 2=some 2:=by kernel_rfl
def El:jI prog 4=some false:=by kernel_rfl
def C5:jI prog 24=some true:=by kernel_rfl
def mU:jI prog 93=some false:=by kernel_rfl
def FB:jI prog 135=some false:=by kernel_rfl
def LK:z9 prog 4=some 1:=by kernel_rfl
def C6:z9 prog 24=some 4:=by kernel_rfl
def T9:z9 prog 93=some 1:=by kernel_rfl
noncomputable def kg(gl:Gl)(n:Nat)(nm:String)(v:V)(args:aj)(H:Hp):Option (OR×Hp):=Cx.mD ⟨prog,gl.g,zl prog gl n,gl.uq⟩ (.fn (.method nm) [] []) (v::args) H
section
variable{cx:Cx}{takes:bA}{dst:eC}{type:ai}{pos:String}{after:Array Edge}{guard:i_}{env:aj}{H:Hp}{lk:aC}{df:aV}
def Xp(cx:Cx)(m:String)(H:Hp)(lk:aC)(df:aV)(env:aj):bS->Option aj->Option (OR×St)
 | some r,some args=>fH lk df env (cx.mD (.fn (.method m) [] []) (r::args) H)
 | _,_=>none
def zW{r:aH}{m:String}{args:nO}{ts:Array ai}:cx.op takes ⟨dst,.call ⟨.invoke r m,args,ts⟩,type,pos,after,guard⟩ env H lk df=Xp cx m H lk df env (aq env r) (bt env args.toList):=by
 simp only[Cx.op,Xp];cases aq env r with
 | none=>rfl
 | some x =>
  cases bt env args.toList with
  | none=>rfl
  | some l =>
   simp only[fH];cases cx.mD (.fn (.method m) [] []) (x::l) H with
   | none=>rfl
   | some q=>obtain⟨a,b⟩:=q;rfl
def zl5{m:String}{v:V}{args:aj}:Xp cx m H lk df env (some v) (some args)=fH lk df env (cx.mD (.fn (.method m) [] []) (v::args) H):=rfl
end
def qT{n:Nat}{nm:String}{t f:Nat}{v u:V}{args:aj}{H H':Hp}{r:V}{fn:Func}{body:Code}(hm:qJ prog t v nm=some (f,u))(hf:prog.funcs[f]?=some fn)(hb:fn.body=some body)(de:(u::args).map aX=u::args)
  (hc:zl prog gl n f (u::args) H=some (.ret r,H')):kg gl n nm (.bf t v) args H=some (.val r,H'):=by
 unfold kg;simp only[Cx.mD,gF,hm,dN,de];exact zR hf hb hc
def yM{n:Nat}{f:FuncId}{args:aj}{H:Hp}{v:V}(h:gl.hk f args=some v):zl prog gl (n+1) f args H=some (.ret v,H):=by
 obtain⟨bs,es⟩:=H;simp only[zl,h]
def zJ{bs:List aN}{es:aC}{n0 t:Nat}(h:n0=bs.length)(ht:t<=n0):ql n0 es t ⟨bs,[]⟩=⟨bs,es⟩:=by
 subst h;have:=qG (bs:=bs) (ls:=[]) (es:=es) ht
 rwa [uf] at this
def qc{bs:List aN}{es:aC}{x:aN}:Hp.push ⟨bs,es⟩ x=⟨bs++[x],es⟩:=rfl
def zs9(hg:GW gl){n:Nat}{bs:List aN}{es:aC}{p:Nat}{cs:aj}{ty:ai}{m:Bool}(hb:nth bs p=some (.cells cs ty))(hc:nth cs 4=some (.bool m)) :
  zl prog gl (n+1) 271 [.ptr p 0] ⟨bs,es⟩=some (.ret (.bool m),⟨bs,es⟩):=by
 have hl:zA prog ⟨bs,[]⟩ gl.g 4 (.ptr p 4)=some (.bool m):=zM El hb hc;refine qH (hg.hk _ _ (by decide)) (λH=>hg.fB _ _ _ _) func271 rfl ?_
 simp only[f271,zc];refine ze ?_;simp only[zt,ah,zc,zi,zH,aF,zn,au,aI,cA,fY,List.length_nil,eM,iQ,gF,cM,cN,List.replicate,Nat.reduceSub]
 refine ze ?_;simp only[zt,ah,zr,zw,zi,zx,zj,aq,zh,zv,zd,zn,au,aI,zp,zu,cG,cA,bp,zq,a_,eM,zb,zg,cM,cN,rz,hl]
 simp only[go_ret,zo,Vm.Fin]
 exact⟨trivial,[.bool m],rfl,rfl,(zJ rfl (dJ _)).symm⟩
def zta(hg:GW gl){n:Nat}{bs:List aN}{es:aC}{p:Nat}{cs:aj}{ty:ai}{m:Bool}(hb:nth bs p=some (.cells cs ty))(hc:nth cs 2=some (.bool m)) :
  zl prog gl (n+1) 278 [.ptr p 0] ⟨bs,es⟩=some (.ret (.bool m),⟨bs,es⟩):=by
 have hl:zA prog ⟨bs,[]⟩ gl.g 4 (.ptr p 2)=some (.bool m):=zM El hb hc;refine qH (hg.hk _ _ (by decide)) (λH=>hg.fB _ _ _ _) func278 rfl ?_
 simp only[f278,zc];refine ze ?_;simp only[zt,ah,zc,zi,zH,aF,zn,au,aI,cA,fY,List.length_nil,eM,iQ,gF,cM,cN,List.replicate,Nat.reduceSub]
 refine ze ?_;simp only[zt,ah,zr,zw,zi,zx,zj,aq,zh,zv,zd,zn,au,aI,zp,zu,cG,cA,bp,zq,a_,eM,zb,zg,cM,cN,LI,hl]
 simp only[go_ret,zo,Vm.Fin]
 exact⟨trivial,[.bool m],rfl,rfl,(zJ rfl (dJ _)).symm⟩
def ztb(hg:GW gl){n:Nat}{bs:List aN}{es:aC}{p:Nat}{cs:aj}{ty:ai}{m:Bool}(hb:nth bs p=some (.cells cs ty))(hc:nth cs 3=some (.bool m)) :
  zl prog gl (n+1) 279 [.ptr p 0] ⟨bs,es⟩=some (.ret (.bool m),⟨bs,es⟩):=by
 have hl:zA prog ⟨bs,[]⟩ gl.g 4 (.ptr p 3)=some (.bool m):=zM El hb hc;refine qH (hg.hk _ _ (by decide)) (λH=>hg.fB _ _ _ _) func279 rfl ?_
 simp only[f279,zc];refine ze ?_;simp only[zt,ah,zc,zi,zH,aF,zn,au,aI,cA,fY,List.length_nil,eM,iQ,gF,cM,cN,List.replicate,Nat.reduceSub]
 refine ze ?_;simp only[zt,ah,zr,zw,zi,zx,zj,aq,zh,zv,zd,zn,au,aI,zp,zu,cG,cA,bp,zq,a_,eM,zb,zg,cM,cN,nj,hl]
 simp only[go_ret,zo,Vm.Fin]
 exact⟨trivial,[.bool m],rfl,rfl,(zJ rfl (dJ _)).symm⟩
def ztc(hg:GW gl){n:Nat}{bs:List aN}{es:aC}{p:Nat}{cs:aj}{ty:ai}{m:Bool}(hb:nth bs p=some (.cells cs ty))(hc:nth cs 1=some (.bool m)) :
  zl prog gl (n+1) 283 [.ptr p 0] ⟨bs,es⟩=some (.ret (.bool m),⟨bs,es⟩):=by
 have hl:zA prog ⟨bs,[]⟩ gl.g 4 (.ptr p 1)=some (.bool m):=zM El hb hc;refine qH (hg.hk _ _ (by decide)) (λH=>hg.fB _ _ _ _) func283 rfl ?_
 simp only[f283,zc];refine ze ?_;simp only[zt,ah,zc,zi,zH,aF,zn,au,aI,cA,fY,List.length_nil,eM,iQ,gF,cM,cN,List.replicate,Nat.reduceSub]
 refine ze ?_;simp only[zt,ah,zr,zw,zi,zx,zj,aq,zh,zv,zd,zn,au,aI,zp,zu,cG,cA,bp,zq,a_,eM,zb,zg,cM,cN,BT,hl]
 simp only[go_ret,zo,Vm.Fin]
 exact⟨trivial,[.bool m],rfl,rfl,(zJ rfl (dJ _)).symm⟩
def ztd(hg:GW gl){n:Nat}{bs:List aN}{es:aC}{p:Nat}{cs:aj}{ty:ai}{m:Bool}(hb:nth bs p=some (.cells cs ty))(hc:nth cs 2=some (.bool m)) :
  zl prog gl (n+1) 284 [.ptr p 0] ⟨bs,es⟩=some (.ret (.bool m),⟨bs,es⟩):=by
 have hl:zA prog ⟨bs,[]⟩ gl.g 4 (.ptr p 2)=some (.bool m):=zM El hb hc;refine qH (hg.hk _ _ (by decide)) (λH=>hg.fB _ _ _ _) func284 rfl ?_
 simp only[f284,zc];refine ze ?_;simp only[zt,ah,zc,zi,zH,aF,zn,au,aI,cA,fY,List.length_nil,eM,iQ,gF,cM,cN,List.replicate,Nat.reduceSub]
 refine ze ?_;simp only[zt,ah,zr,zw,zi,zx,zj,aq,zh,zv,zd,zn,au,aI,zp,zu,cG,cA,bp,zq,a_,eM,zb,zg,cM,cN,ua,hl]
 simp only[go_ret,zo,Vm.Fin]
 exact⟨trivial,[.bool m],rfl,rfl,(zJ rfl (dJ _)).symm⟩
def zte(hg:GW gl){n:Nat}{bs:List aN}{es:aC}{p:Nat}{cs:aj}{ty:ai}{m:Bool}(hb:nth bs p=some (.cells cs ty))(hc:nth cs 2=some (.bool m)) :
  zl prog gl (n+1) 287 [.ptr p 0] ⟨bs,es⟩=some (.ret (.bool m),⟨bs,es⟩):=by
 have hl:zA prog ⟨bs,[]⟩ gl.g 4 (.ptr p 2)=some (.bool m):=zM El hb hc;refine qH (hg.hk _ _ (by decide)) (λH=>hg.fB _ _ _ _) func287 rfl ?_
 simp only[f287,zc];refine ze ?_;simp only[zt,ah,zc,zi,zH,aF,zn,au,aI,cA,fY,List.length_nil,eM,iQ,gF,cM,cN,List.replicate,Nat.reduceSub]
 refine ze ?_;simp only[zt,ah,zr,zw,zi,zx,zj,aq,zh,zv,zd,zn,au,aI,zp,zu,cG,cA,bp,zq,a_,eM,zb,zg,cM,cN,LJ,hl]
 simp only[go_ret,zo,Vm.Fin]
 exact⟨trivial,[.bool m],rfl,rfl,(zJ rfl (dJ _)).symm⟩
def ztf(hg:GW gl){n:Nat}{bs:List aN}{es:aC}{p:Nat} :
  zl prog gl (n+1) 270 [.ptr p 0] ⟨bs,es⟩=some (.ret (.bool false),⟨bs,es⟩):=by
 refine qH (hg.hk _ _ (by decide)) (λH=>hg.fB _ _ _ _) func270 rfl ?_
 simp only[f270,zc];refine ze ?_;simp only[zt,ah,zc,zi,zH,aF,zn,au,aI,cA,fY,List.length_nil,eM,iQ,gF,cM,cN,List.replicate,Nat.reduceSub]
 refine ze ?_;simp only[zt,ah,zi,zH,aF,zn,au,aI,cA,cM,cN]
 simp only[go_ret,zo,Vm.Fin]
 exact⟨trivial,[.bool false],rfl,rfl,(zJ rfl (dJ _)).symm⟩
def ztg(hg:GW gl){n:Nat}{bs:List aN}{es:aC}{_bg:Bool}{_c:Int} :
  zl prog gl (n+1) 274 [.agg []] ⟨bs,es⟩=some (.ret (.bool true),⟨bs,es⟩):=by
 refine qH (hg.hk _ _ (by decide)) (λH=>hg.fB _ _ _ _) func274 rfl ?_
 simp only[f274,zc];refine ze ?_;simp only[zt,ah,zc,wb,zi,zh,zH,aF,qt,zn,au,aI,cA,qc,fY,List.length_nil,eM,iQ,gF,zb,cM,cN,List.replicate,Nat.reduceSub,qQ (show eF (.agg [])=true from rfl)]
 refine ze ?_;simp only[zt,ah,zi,zH,aF,zn,au,aI,cA,cM,cN]
 simp only[go_ret,zo,Vm.Fin]
 exact⟨trivial,[.bool true],rfl,rfl,(qG (ls:=[_]) (dJ _)).symm⟩
def zth(hg:GW gl){n:Nat}{bs:List aN}{es:aC}{_bg:Bool}{_c:Int} :
  zl prog gl (n+1) 275 [.agg []] ⟨bs,es⟩=some (.ret (.bool false),⟨bs,es⟩):=by
 refine qH (hg.hk _ _ (by decide)) (λH=>hg.fB _ _ _ _) func275 rfl ?_
 simp only[f275,zc];refine ze ?_;simp only[zt,ah,zc,wb,zi,zh,zH,aF,qt,zn,au,aI,cA,qc,fY,List.length_nil,eM,iQ,gF,zb,cM,cN,List.replicate,Nat.reduceSub,qQ (show eF (.agg [])=true from rfl)]
 refine ze ?_;simp only[zt,ah,zi,zH,aF,zn,au,aI,cA,cM,cN]
 simp only[go_ret,zo,Vm.Fin]
 exact⟨trivial,[.bool false],rfl,rfl,(qG (ls:=[_]) (dJ _)).symm⟩
def zti(hg:GW gl){n:Nat}{bs:List aN}{es:aC}{bg:Bool}{c:Int} :
  zl prog gl (n+1) 277 [.agg [],.bool bg,.int .u8 c] ⟨bs,es⟩=some (.ret (.bool false),⟨bs,es⟩):=by
 refine qH (hg.hk _ _ (by decide)) (λH=>hg.fB _ _ _ _) func277 rfl ?_
 simp only[f277,zc];refine ze ?_;simp only[zt,ah,zc,wb,zi,zh,zH,aF,qt,zn,au,aI,cA,qc,fY,List.length_nil,eM,Nat.reduceAdd,iQ,gF,zb,cM,cN,List.replicate,Nat.reduceSub,qQ (show eF (.agg [])=true from rfl)]
 refine ze ?_;simp only[zt,ah,zi,zH,aF,zn,au,aI,cA,cM,cN]
 simp only[go_ret,zo,Vm.Fin]
 exact⟨trivial,[.bool false],rfl,rfl,(qG (ls:=[_]) (dJ _)).symm⟩
end
section
variable{gl:Gl}
def yj(s:fS)(m:Bool):aj:=[.int .u64 s.1,.int .u64 s.2.1,.int .u64 s.2.2.1,.int .u64 s.2.2.2,.bool m]
def qw{α:Type}{l:List α}{i:Nat}{v:α}(h:i<l.length):nth (l.set i v) i=some v:=by rw[zf,J7 h]
def z8{α:Type}{l:List α}{i j:Nat}{v:α}(h:i≠j):nth (l.set i v) j=nth l j:=by rw[zf,zf,GZ h]
def Xq{H:Hp}{b:Nat}{m:Bool}:H.bQ b (.bool m)=H:=qR rfl
def ztj(hg:GW gl){n:Nat}{bs:List aN}{es:aC}{p c:Nat}{s:fS}{m bg:Bool}(hs:lS s)(hc:c<256)(hb:nth bs p=some (.cells (yj s m) 125)) :
  zl prog gl (n+2) 273 [.ptr p 0,.bool bg,.int .u8 (c:Nat)] ⟨bs,es⟩=some (.ret (.bool (bg && qN s c)),⟨bs.set p (.cells (yj s (bg && qN s c)) 125),es⟩):=by
 have bu:p<bs.length:=kQ (H:=⟨bs,[]⟩) hb;have bY:Hp.get ⟨bs,[]⟩ p=some (.cells (yj s m) 125):=hb;have hl:zA prog ⟨bs,[]⟩ gl.g 24 (.ptr p 0)=some (bI s):=vd C5 C6 bY (show 0+4<=(yj s m).length by simp[yj])
 have gI:Cx.cX ⟨prog,gl.g,zl prog gl (n+1),gl.uq⟩ 17 [bI s,.int .u8 (c:Nat)] ⟨bs,[]⟩=some (.val (.bool (qN s c)),⟨bs,[]⟩):=zR func17 rfl (yM (hg.has s c hs hc));have ww:aX (bI s)=bI s:=rfl;refine qH (hg.hk _ _ (by decide)) (λH=>hg.fB _ _ _ _) func273 rfl ?_
 have b8:∀(env:aj)(x:Bool),qV prog 4 ⟨bs,[]⟩ [] [] (some (.bool x,env)) (some (.ptr p 4))=some (.skip,⟨env,⟨bs.set p (.cells (yj s x) 125),[]⟩,[],[]⟩):=λenv x=>by
  rw[jn LK bY rfl rfl (by simp[yj]) (by simp[yj,wK,locked])]
  simp only[Xq,Hp.set,V.laid,yj,Vm.storeCells,cN,cM]
 have Aj:∀x,zA prog ⟨bs.set p (.cells (yj s x) 125),[]⟩ gl.g 4 (.ptr p 4)=some (.bool x):=λx=>zM (H:=⟨bs.set p (.cells (yj s x) 125),[]⟩) El (qw bu) rfl;simp only[f273,zc];refine ze ?_;simp only[zt,ah,zc,zi,zH,aF,zn,au,aI,cA,fY,List.length_nil,eM,Nat.reduceAdd,iQ,gF,cM,cN,List.replicate,Nat.reduceSub]
 refine ze ?_;cases bg with
 | false =>
  simp only[zt,ah,zc,zr,zw,zC,qD,zx,zj,jH,bt,zQ,aq,zh,aF,zv,zd,au,bK,aI,zB,zp,zu,cG,cA,bp,zq,a_,qn,fH,iC,Bm,eM,rP,q5,zb,zg,cM,cN,jb,zF,qa,lQ,yh,BS,rz,hl,gI,ww,q5,b8]
  refine ze ?_;simp only[zt,ah,zr,zw,zi,zx,zj,aq,zh,zv,zd,zn,au,aI,zp,zu,cG,cA,bp,zq,a_,eM,zb,zg,cM,cN,rz,Aj]
  simp only[go_ret,zo,Vm.Fin]
  exact⟨trivial,[.bool false],rfl,rfl,(zJ (by simp) (dJ _)).symm⟩
 | true =>
  simp only[zt,ah,zc,zr,zw,zC,qD,zx,zj,jH,bt,zQ,aq,zh,aF,zv,zd,au,bK,aI,zB,zp,zu,cG,cA,bp,zq,a_,qn,fH,iC,Bm,eM,rP,qZ,zb,zg,cM,cN,jb,zF,qa,fq,kZ,BS,rz,hl,gI,ww,qZ,b8]
  refine ze ?_;simp only[zt,ah,zr,zw,zi,zx,zj,aq,zh,zv,zd,zn,au,aI,zp,zu,cG,cA,bp,zq,a_,eM,zb,zg,cM,cN,rz,Aj]
  simp only[go_ret,zo,Vm.Fin]
  exact⟨trivial,[.bool (qN s c)],rfl,rfl,(zJ (by simp) (dJ _)).symm⟩
def z24:qO prog 24=some (bI c_):=by kernel_rfl
def zqc(s:fS):eF (bI s)=true:=rfl
def ww(s:fS):aX (bI s)=bI s:=rfl
def LL{H:Hp}{g:Nat->Nat->bS}{b:Nat}{s:fS}(h:H.get b=some (.cells (bI s).cells 24)):zA prog H g 24 (.ptr b 0)=some (bI s):=vd C5 C6 h (show 0+4<=4 by decide)
def LM{H:Hp}{b:Nat}{s t:fS}{env:aj}{lk:aC}{df:aV}(h:H.get b=some (.cells (bI s).cells 24)):qV prog 24 H lk df (some (bI t,env)) (some (.ptr b 0))=some (.skip,⟨env,H.set b (.cells (bI t).cells 24),lk,df⟩):=by
 rw[jn C6 h rfl rfl (show 0+4<=4 by decide) (w9 (cs:=(bI s).cells) rfl (show 0+4<=4 by decide))]
 rw[qR rfl];rfl
def vf{env:aj}{t:Nat}{s:fS}:jj env t (some (bI s))=some (bI s,env):=rfl
def Pf{env:aj}{H:Hp}{lk:aC}{df:aV}:OY 24 env H lk df (qO prog 24)=some (.val (.ptr H.af.length 0),⟨env,H.push (.cells (bI c_).cells 24),lk,df⟩):=by
 rw[z24,wI rfl]
def T_{bs:List aN}{es:aC}{x:aN}:Hp.get ⟨bs++[x],es⟩ bs.length=some x:=lq
def T'{bs:List aN}{es:aC}{x y:aN}:Hp.set ⟨bs++[x],es⟩ bs.length y=⟨bs++[y],es⟩:=BD
def Xr{bs:List aN}{es:aC}{s:fS}{env:aj}{t:Nat}(h:nth env t=some (.ptr bs.length 0)):zG prog ⟨bs++[.cells (bI s).cells 24],es⟩ env [.cell t 24]=some [bI s]:=by
 simp only[zG,h,LL (H:=⟨bs++[.cells (bI s).cells 24],es⟩) (b:=bs.length) T_,ww]
def Ra{env:aj}:ki prog 24 #[] env=some (bI c_):=by kernel_rfl
def ztk(hg:GW gl){n:Nat}{bs:List aN}{es:aC}{p:Nat}{s:fS}{m bg:Bool}(hb:nth bs p=some (.cells (yj s m) 125)) :
  zl prog gl (n+1) 272 [.ptr p 0,.bool bg] ⟨bs,es⟩=some (.ret (bI (if bg then s else c_)),⟨bs,es⟩):=by
 have bu:p<bs.length:=kQ (H:=⟨bs,[]⟩) hb;have bY:Hp.get ⟨bs++[.cells (bI c_).cells 24],[]⟩ p=some (.cells (yj s m) 125):=(kV bu).trans hb;have hl:zA prog ⟨bs++[.cells (bI c_).cells 24],[]⟩ gl.g 24 (.ptr p 0)=some (bI s):=vd C5 C6 bY (show 0+4<=(yj s m).length by simp[yj])
 refine qH (hg.hk _ _ (by decide)) (λH=>hg.fB _ _ _ _) func272 rfl ?_
 simp only[f272,zc];refine ze ?_;simp only[zt,ah,zc,jf,au,aI,qc,fY,List.length_nil,eM,Nat.reduceAdd,iQ,gF,cM,cN,List.replicate,Nat.reduceSub,Pf]
 refine ze ?_;cases bg with
 | false =>
  simp only[zt,ah,zc,bC,zr,aq,zd,au,aI,zp,fK,zP,zY,zb,zg,cM,cN,bH,pJ,Cg]
  refine ze ?_;simp only[zt,ah,zC,jd,aq,zh,zd,au,bK,aI,zu,zb,zg,cM,cN,Ra,vf,LM T_,T']
  simp only[go_ret,zo,Vm.Fin]
  exact⟨trivial,[bI c_],Xr rfl,rfl,(qG (ls:=[_]) (dJ _)).symm⟩
 | true =>
  simp only[zt,ah,zc,bC,zr,aq,zd,au,aI,zp,fK,zP,zY,aT,zb,zg,cM,cN,fK,pJ,E1,Cz]
  refine ze ?_;simp only[zt,ah,zr,zw,zC,zx,zj,aq,zh,zd,au,bK,aI,zu,cG,cA,bp,zq,a_,rP,zb,zg,cM,cN,BS,hl,ww,vf,LM T_,T']
  simp only[go_ret,zo,je,Vm.Fin]
  exact⟨trivial,[bI s],Xr rfl,rfl,(qG (ls:=[_]) (dJ _)).symm⟩
def ztl(hg:GW gl){n:Nat}{bs:List aN}{es:aC}{bg:Bool} :
  zl prog gl (n+1) 276 [.agg [],.bool bg] ⟨bs,es⟩=some (.ret (bI c_),⟨bs,es⟩):=by
 refine qH (hg.hk _ _ (by decide)) (λH=>hg.fB _ _ _ _) func276 rfl ?_
 simp only[f276,zc];refine ze ?_;simp only[zt,ah,zc,wb,jf,zh,qt,au,aI,qc,oI,fY,List.length_nil,eM,Nat.reduceAdd,nI,iQ,gF,zb,cM,cN,List.replicate,Nat.reduceSub,Pf,qQ (show eF (.agg [])=true from rfl)]
 refine ze ?_;have g1:∀x y:aN,Hp.get ⟨bs++[x,y],[]⟩ (bs.length+1)=some y:=λx y=>Vm.get_at (k:=1);simp only[zt,ah,zC,jd,aq,zh,zd,au,bK,aI,zu,zb,zg,cM,cN,Ra,vf,LM (g1 _ _)]
 rw[Vm.D9 (k:=1)];simp only[go_ret,zo,Vm.Fin]
 refine⟨trivial,[bI c_],?_,rfl,(qG (ls:=[_,_]) (dJ _)).symm⟩;simp only[zG,zg,zb];rw[LL (s:=c_) (by exact Vm.get_at (k:=1))]
 rfl
end
section
variable{gl:Gl}
abbrev LN:= "bolter/match.empty"
abbrev LO:= "bolter/match.ends"
abbrev Ku:= "bolter/match.next"
abbrev Ji:= "bolter/match.step"
def xK(va vb:V)(null last:Bool):aj:=[va,vb,.bool null,.bool last]
def Gy(v:V)(loop null:Bool):aj:=[v,.bool loop,.bool null]
def jV{n:Nat}{nm:String}{v:V}{args:aj}{H H':Hp}{lk:aC}{df:aV}{env:aj}{r:V}(h:kg gl n nm v args H=some (.val r,H')) :
  Xp ⟨prog,gl.g,zl prog gl n,gl.uq⟩ nm H lk df env (some v) (some args)=some (.val r,⟨env,H',lk,df⟩):=by
 rw[zl5];unfold kg at h;rw[h];rfl
def zr0(hg:GW gl){n:Nat}{bs:List aN}{es:aC}{p:Nat}{va vb:V}{null last bg ea na:Bool}(hb:nth bs p=some (.cells (xK va vb null last) 133))(Oh:aX va=va)
  (he:kg gl n LN va [] ⟨bs,[]⟩=some (.val (.bool ea),⟨bs,[]⟩)) (hn:kg gl n LO va [] ⟨bs,[]⟩=some (.val (.bool na),⟨bs,[]⟩)) :
  zl prog gl (n+1) 282 [.ptr p 0,.bool bg] ⟨bs,es⟩=some (.ret (.bool (bg && ea || na)),⟨bs,es⟩):=by
 have hl:zA prog ⟨bs,[]⟩ gl.g 93 (.ptr p 0)=some va:=zM (H:=⟨bs,[]⟩) mU hb rfl;have Lv:=λenv=>jV (lk:=[]) (df:=[]) (env:=env) he;have Hu:=λenv=>jV (lk:=[]) (df:=[]) (env:=env) hn;refine qH (hg.hk _ _ (by decide)) (λH=>hg.fB _ _ _ _) func282 rfl ?_
 simp only[f282,zc];refine ze ?_;simp only[zt,ah,zc,zi,zH,aF,zn,au,aI,cA,fY,List.length_nil,eM,Nat.reduceAdd,iQ,gF,cM,cN,List.replicate,Nat.reduceSub]
 refine ze ?_;cases bg with
 | false =>
  simp only[zt,ah,zr,zw,qD,zi,zx,zj,bt,aq,zh,aF,zv,zd,zn,au,aI,zp,zu,cG,cA,bp,zq,a_,rP,q5,zb,zg,cM,cN,jb,zF,qa,lQ,eX,kZ,yh,rA,hl,Oh,zW,Lv,Hu,q5]
  simp only[go_ret,zo,Vm.Fin]
  exact⟨trivial,[.bool na],rfl,rfl,(zJ rfl (dJ _)).symm⟩
 | true =>
  cases ea with
  | false =>
   simp only[zt,ah,zr,zw,qD,zi,zx,zj,bt,aq,zh,aF,zv,zd,zn,au,aI,zp,zu,cG,cA,bp,zq,a_,rP,qZ,q5,zb,zg,cM,cN,jb,zF,qa,fq,eX,kZ,rA,hl,Oh,zW,Lv,Hu,qZ,q5]
   simp only[go_ret,zo,Vm.Fin]
   exact⟨trivial,[.bool na],rfl,rfl,(zJ rfl (dJ _)).symm⟩
  | true =>
   simp only[zt,ah,zr,zw,qD,zi,zx,zj,bt,aq,zh,aF,zv,zd,zn,au,aI,zp,zu,cG,cA,bp,zq,a_,rP,qZ,zb,zg,cM,cN,jb,zF,qa,fq,gS,kZ,yh,rA,hl,Oh,zW,Lv,Hu,qZ]
   simp only[go_ret,zo,Vm.Fin]
   exact⟨trivial,[.bool true],rfl,rfl,(zJ rfl (dJ _)).symm⟩
def ztm(hg:GW gl){n:Nat}{bs:List aN}{es:aC}{p:Nat}{v:V}{loop null na:Bool}(hb:nth bs p=some (.cells (Gy v loop null) 140))(hv:aX v=v)
  (hn:kg gl n LO v [] ⟨bs,[]⟩=some (.val (.bool na),⟨bs,[]⟩)) :
  zl prog gl (n+1) 288 [.ptr p 0] ⟨bs,es⟩=some (.ret (.bool na),⟨bs,es⟩):=by
 have hl:zA prog ⟨bs,[]⟩ gl.g 93 (.ptr p 0)=some v:=zM (H:=⟨bs,[]⟩) mU hb rfl;have Hu:=λenv=>jV (lk:=[]) (df:=[]) (env:=env) hn;refine qH (hg.hk _ _ (by decide)) (λH=>hg.fB _ _ _ _) func288 rfl ?_
 simp only[f288,zc];refine ze ?_;simp only[zt,ah,zc,zi,zH,aF,zn,au,aI,cA,fY,List.length_nil,eM,iQ,gF,cM,cN,List.replicate,Nat.reduceSub]
 refine ze ?_;simp only[zt,ah,zr,zw,zi,zx,zj,bt,aq,zh,zv,zd,zn,au,aI,zu,cG,cA,bp,zq,a_,rP,zb,zg,cM,cN,oD,hl,hv,zW,Hu]
 simp only[go_ret,zo,Vm.Fin]
 exact⟨trivial,[.bool na],rfl,rfl,(zJ rfl (dJ _)).symm⟩
def zr1(hg:GW gl){n:Nat}{bs:List aN}{es:aC}{p:Nat}{v:V}{loop null bg na:Bool}(hb:nth bs p=some (.cells (Gy v loop null) 140))(hv:aX v=v)
  (hn:kg gl n LO v [] ⟨bs,[]⟩=some (.val (.bool na),⟨bs,[]⟩)) :
  zl prog gl (n+1) 291 [.ptr p 0,.bool bg] ⟨bs,es⟩=some (.ret (.bool (bg || loop && na)),⟨bs,es⟩):=by
 have hl:zA prog ⟨bs,[]⟩ gl.g 93 (.ptr p 0)=some v:=zM (H:=⟨bs,[]⟩) mU hb rfl;have lH:zA prog ⟨bs,[]⟩ gl.g 4 (.ptr p 1)=some (.bool loop):=zM (H:=⟨bs,[]⟩) El hb rfl;have Hu:=λenv=>jV (lk:=[]) (df:=[]) (env:=env) hn;refine qH (hg.hk _ _ (by decide)) (λH=>hg.fB _ _ _ _) func291 rfl ?_
 simp only[f291,zc];refine ze ?_;simp only[zt,ah,zc,zi,zH,aF,zn,au,aI,cA,fY,List.length_nil,eM,Nat.reduceAdd,iQ,gF,cM,cN,List.replicate,Nat.reduceSub]
 refine ze ?_;cases bg with
 | true =>
  simp only[zt,ah,zr,zw,qD,zi,zx,zj,bt,aq,zh,aF,zv,zd,zn,au,aI,zp,zu,cG,cA,bp,zq,a_,eM,rP,qZ,zb,zg,cM,cN,jb,zF,qa,gS,yh,oD,BU,hl,lH,hv,zW,Hu,qZ]
  simp only[go_ret,zo,Vm.Fin]
  exact⟨trivial,[.bool true],rfl,rfl,(zJ rfl (dJ _)).symm⟩
 | false =>
  cases loop with
  | false =>
   simp only[zt,ah,zr,zw,qD,zi,zx,zj,bt,aq,zh,aF,zv,zd,zn,au,aI,zp,zu,cG,cA,bp,zq,a_,eM,rP,q5,zb,zg,cM,cN,jb,zF,qa,lQ,eX,kZ,yh,oD,BU,hl,lH,hv,zW,Hu,q5]
   simp only[go_ret,zo,Vm.Fin]
   exact⟨trivial,[.bool false],rfl,rfl,(zJ rfl (dJ _)).symm⟩
  | true =>
   simp only[zt,ah,zr,zw,qD,zi,zx,zj,bt,aq,zh,aF,zv,zd,zn,au,aI,zp,zu,cG,cA,bp,zq,a_,eM,rP,qZ,q5,zb,zg,cM,cN,jb,zF,qa,fq,eX,kZ,oD,BU,hl,lH,hv,zW,Hu,qZ,q5]
   simp only[go_ret,zo,Vm.Fin]
   exact⟨trivial,[.bool na],rfl,rfl,(zJ rfl (dJ _)).symm⟩
def ztn(hg:GW gl){n:Nat}{bs iU j_:List aN}{es:aC}{p:Nat}{va vb:V}{null last bg sec fa gb eb:Bool}{c:Int}(hb:nth bs p=some (.cells (xK va vb null last) 133))(Oh:aX va=va)(hvb:aX vb=vb)
  (Em:zl prog gl n 282 [.ptr p 0,.bool bg] ⟨bs,[]⟩=some (.ret (.bool sec),⟨bs,[]⟩))
  (ha:kg gl n Ji va [.bool bg,.int .u8 c] ⟨bs,[]⟩=some (.val (.bool fa),⟨iU,[]⟩)) (Du:nth iU p=nth bs p)
  (hs:kg gl n Ji vb [.bool sec,.int .u8 c] ⟨iU,[]⟩=some (.val (.bool gb),⟨j_,[]⟩)) (Ua:nth j_ p=nth bs p)
  (he:kg gl n LN vb [] ⟨j_,[]⟩=some (.val (.bool eb),⟨j_,[]⟩)) (hlen:j_.length=bs.length) :
  zl prog gl (n+1) 281 [.ptr p 0,.bool bg,.int .u8 c] ⟨bs,es⟩=some (.ret (.bool (gb || fa && eb)),⟨j_.set p (.cells (xK va vb null (gb || fa && eb)) 133),es⟩):=by
 have bu:p<j_.length:=kQ (H:=⟨j_,[]⟩) (Ua.trans hb);have hl:zA prog ⟨bs,[]⟩ gl.g 93 (.ptr p 0)=some va:=zM (H:=⟨bs,[]⟩) mU hb rfl;have lH:zA prog ⟨iU,[]⟩ gl.g 93 (.ptr p 1)=some vb:=zM (H:=⟨iU,[]⟩) mU (Du.trans hb) rfl;have Aj:zA prog ⟨j_,[]⟩ gl.g 93 (.ptr p 1)=some vb:=zM (H:=⟨j_,[]⟩) mU (Ua.trans hb) rfl
 have uS:Cx.cX ⟨prog,gl.g,zl prog gl n,gl.uq⟩ 282 [.ptr p 0,.bool bg] ⟨bs,[]⟩=some (.val (.bool sec),⟨bs,[]⟩):=zR func282 rfl Em;have p6:=λenv=>jV (lk:=[]) (df:=[]) (env:=env) ha;have hs':=λenv=>jV (lk:=[]) (df:=[]) (env:=env) hs;have Lv:=λenv=>jV (lk:=[]) (df:=[]) (env:=env) he
 have b8:∀(env:aj)(x:Bool),qV prog 4 ⟨j_,[]⟩ [] [] (some (.bool x,env)) (some (.ptr p 3))=some (.skip,⟨env,⟨j_.set p (.cells (xK va vb null x) 133),[]⟩,[],[]⟩):=λenv x=>by
  rw[jn LK (H:=⟨j_,[]⟩) (Ua.trans hb) rfl rfl (by simp[xK]) (by simp[xK,wK,locked])]
  simp only[Xq,Hp.set,V.laid,xK,Vm.storeCells,cN,cM]
 have sB:∀x,zA prog ⟨j_.set p (.cells (xK va vb null x) 133),[]⟩ gl.g 4 (.ptr p 3)=some (.bool x):=λx=>zM (H:=⟨j_.set p (.cells (xK va vb null x) 133),[]⟩) El (qw bu) rfl;refine qH (hg.hk _ _ (by decide)) (λH=>hg.fB _ _ _ _) func281 rfl ?_
 simp only[f281,zc];refine ze ?_;simp only[zt,ah,zc,zi,zH,aF,zn,au,aI,cA,fY,List.length_nil,eM,Nat.reduceAdd,iQ,gF,cM,cN,List.replicate,Nat.reduceSub]
 refine ze ?_;simp only[zt,ah,zc,zr,zi,jH,bt,zQ,aq,zh,zv,zd,zn,au,aI,zp,zu,qn,fH,iC,Bm,zb,zg,cM,cN,uS]
 refine ze ?_;simp only[zt,ah,zc,zr,zw,zi,zx,zj,bt,zQ,aq,zh,zv,zd,zn,au,aI,zB,zp,zu,cG,cA,bp,zq,a_,rP,zb,zg,cM,cN,rA,hl,Oh,zW,p6]
 refine ze ?_;cases gb with
 | true =>
  simp only[zt,ah,zc,zr,zw,zC,qD,zx,zj,bt,zQ,aq,zh,aF,zv,zd,au,bK,aI,zB,zp,zu,cG,cA,bp,zq,a_,eM,qZ,zb,zg,cM,cN,jb,zF,qa,gS,yh,tZ,nj,lH,Aj,hvb,zW,hs',Lv,qZ,b8]
  refine ze ?_;simp only[zt,ah,zr,zw,zi,zx,zj,aq,zh,zv,zd,zn,au,aI,zp,zu,cG,cA,bp,zq,a_,eM,zb,zg,cM,cN,nj,sB]
  simp only[go_ret,zo,Vm.Fin]
  exact⟨trivial,[.bool true],rfl,rfl,(zJ (by simp[hlen]) (dJ _)).symm⟩
 | false =>
  cases fa with
  | false =>
   simp only[zt,ah,zc,zr,zw,zC,qD,zx,zj,bt,zQ,aq,zh,aF,zv,zd,au,bK,aI,zB,zp,zu,cG,cA,bp,zq,a_,eM,q5,zb,zg,cM,cN,jb,zF,qa,lQ,eX,kZ,yh,tZ,nj,lH,Aj,hvb,zW,hs',Lv,q5,b8]
   refine ze ?_;simp only[zt,ah,zr,zw,zi,zx,zj,aq,zh,zv,zd,zn,au,aI,zp,zu,cG,cA,bp,zq,a_,eM,zb,zg,cM,cN,nj,sB]
   simp only[go_ret,zo,Vm.Fin]
   exact⟨trivial,[.bool false],rfl,rfl,(zJ (by simp[hlen]) (dJ _)).symm⟩
  | true =>
   simp only[zt,ah,zc,zr,zw,zC,qD,zx,zj,bt,zQ,aq,zh,aF,zv,zd,au,bK,aI,zB,zp,zu,cG,cA,bp,zq,a_,eM,qZ,q5,zb,zg,cM,cN,jb,zF,qa,fq,eX,kZ,tZ,nj,lH,Aj,hvb,zW,hs',Lv,qZ,q5,b8]
   refine ze ?_;simp only[zt,ah,zr,zw,zi,zx,zj,aq,zh,zv,zd,zn,au,aI,zp,zu,cG,cA,bp,zq,a_,eM,zb,zg,cM,cN,nj,sB]
   simp only[go_ret,zo,Vm.Fin]
   exact⟨trivial,[.bool eb],rfl,rfl,(zJ (by simp[hlen]) (dJ _)).symm⟩
end
section
variable{gl:Gl}
def q6{cx:Cx}{t d:Nat}{a:aH}{ty:ai}{pos:String}{after:Array Edge}{guard:i_}{env:aj}{H:Hp}{lk:aC}{df:aV}{p v w:V}{D:Nat}
  (hp:aq env a=some p) (hl:zA cx.P H cx.gl t p=some v) (hv:aX v=w):cx.eU [] ⟨some d,.load t a,ty,pos,after,guard⟩ env w ⟨D,H,lk,df⟩=true:=by
 refine zkI (s1:=⟨env,H,lk,df⟩) ?_;rw[zw,hp,cG,hl,cA,hv];rfl
def zto(hg:GW gl){n:Nat}{bs iU:List aN}{es:aC}{p:Nat}{t:Nat}{u:V}{loop null bg sec fa:Bool}{c:Int}(hb:nth bs p=some (.cells (Gy (.bf t u) loop null) 140))
  (Em:zl prog gl n 291 [.ptr p 0,.bool bg] ⟨bs,[]⟩=some (.ret (.bool sec),⟨bs,[]⟩))
  (ha:kg gl n Ji (.bf t u) [.bool sec,.int .u8 c] ⟨bs,[]⟩=some (.val (.bool fa),⟨iU,[]⟩)) (Du:nth iU p=nth bs p) (hlen:iU.length=bs.length) :
  zl prog gl (n+1) 290 [.ptr p 0,.bool bg,.int .u8 c] ⟨bs,es⟩=some (.ret (.bool fa),⟨iU,es⟩):=by
 have hl:zA prog ⟨bs,[]⟩ gl.g 93 (.ptr p 0)=some (.bf t u):=zM (H:=⟨bs,[]⟩) mU hb rfl;have lH:zA prog ⟨iU,[]⟩ gl.g 93 (.ptr p 0)=some (.bf t u):=zM (H:=⟨iU,[]⟩) mU (Du.trans hb) rfl;have uS:Cx.cX ⟨prog,gl.g,zl prog gl n,uR⟩ 291 [.ptr p 0,.bool bg] ⟨bs,[]⟩=some (.val (.bool sec),⟨bs,[]⟩):=zR func291 rfl Em
 have p6:=λenv=>jV (lk:=[]) (df:=[]) (env:=env) ha;rw[hg.uq] at p6;refine qH (hg.hk _ _ (by decide)) (λH=>hg.fB _ _ _ _) func290 rfl ?_
 rw[hg.uq];simp only[f290,zc];refine ze ?_;simp only[zt,ah,zc,zi,zH,aF,zn,au,aI,cA,fY,List.length_nil,eM,Nat.reduceAdd,iQ,gF,cM,cN,List.replicate,Nat.reduceSub]
 refine xH [3] [(false,false),(false,false),(false,false),(true,false),(false,false),(false,false),(false,true),(false,false),(false,false),(false,false),(false,true),(false,false)] (tk:=[]) (by kernel_rfl) (by kernel_rfl) ?_
 simp only[zr,zw,zi,zx,zj,jH,bt,zQ,aq,zh,zv,zd,zn,aI,zB,zp,zu,cG,cA,bp,zq,a_,qn,fH,iC,Bm,fK,rP,fW,zb,zg,cM,cN,oB,sI,Q7,ziz,kA,wo,jU,jy,mU,oD,hl,uS,qo,zW,p6];refine⟨⟨q6 (p:=.ptr p 0) rfl hl rfl,trivial⟩,⟨q6 (p:=.ptr p 0) rfl lH rfl,trivial⟩,?_⟩;simp only[go_ret,zo,Vm.Fin]
 exact⟨trivial,[.bool fa],rfl,rfl,(zJ (by simp[hlen]) (dJ _)).symm⟩
def ztp(hg:GW gl){n:Nat}{bs:List aN}{es:aC}{p:Nat}{t:Nat}{u:V}{loop null bg sec:Bool}{s:fS}(hb:nth bs p=some (.cells (Gy (.bf t u) loop null) 140))
  (Em:∀bs',(∀i,i<bs.length->nth bs' i=nth bs i)->zl prog gl n 291 [.ptr p 0,.bool bg] ⟨bs',[]⟩=some (.ret (.bool sec),⟨bs',[]⟩))
  (ha:∀bs',(∀i,i<bs.length->nth bs' i=nth bs i)->kg gl n Ku (.bf t u) [.bool sec] ⟨bs',[]⟩=some (.val (bI s),⟨bs',[]⟩)) :
  zl prog gl (n+1) 289 [.ptr p 0,.bool bg] ⟨bs,es⟩=some (.ret (bI s),⟨bs,es⟩):=by
 have bu:p<bs.length:=kQ (H:=⟨bs,[]⟩) hb;have ek:∀x:aN,∀i,i<bs.length->nth (bs++[x]) i=nth bs i:=λx i hi=>kV (es:=[]) (ls:=[x]) hi;have hl:∀x:aN,zA prog ⟨bs++[x],[]⟩ gl.g 93 (.ptr p 0)=some (.bf t u):=λx=>zM (H:=⟨bs++[x],[]⟩) mU ((ek x p bu).trans hb) rfl
 have uS:Cx.cX ⟨prog,gl.g,zl prog gl n,uR⟩ 291 [.ptr p 0,.bool bg] ⟨bs++[.cells (bI c_).cells 24],[]⟩=some (.val (.bool sec),⟨bs++[.cells (bI c_).cells 24],[]⟩):=zR func291 rfl (Em _ (ek _));have p6:=λenv=>jV (lk:=[]) (df:=[]) (env:=env) (ha (bs++[.cells (bI c_).cells 24]) (ek _));rw[hg.uq] at p6
 refine qH (hg.hk _ _ (by decide)) (λH=>hg.fB _ _ _ _) func289 rfl ?_
 rw[hg.uq];simp only[f289,zc];refine ze ?_;simp only[zt,ah,zc,jf,au,aI,qc,fY,List.length_nil,eM,Nat.reduceAdd,iQ,gF,cM,cN,List.replicate,Nat.reduceSub,Pf]
 refine xH [3] [(false,false),(false,false),(false,false),(true,false),(false,false),(false,false),(false,true),(false,false),(false,false),(false,true),(false,true)] (tk:=[]) (by kernel_rfl) (by kernel_rfl) ?_
 simp only[zr,zw,zC,zx,zj,jH,bt,zQ,aq,zh,zd,aI,zp,zu,cG,cA,bp,zq,a_,qn,fH,iC,Bm,fK,rP,fW,zb,zg,cM,cN,oB,sI,Q7,ziz,zeX,kA,wo,jU,jy,mU,oD,hl,uS,qo,zW,p6,vf,LM T_,T'];refine⟨⟨q6 (p:=.ptr p 0) rfl (hl _) rfl,trivial⟩,⟨q6 (p:=.ptr p 0) rfl (hl _) rfl,trivial⟩,λ_=>⟨q6 (p:=.ptr p 0) rfl (hl _) rfl,trivial⟩,?_⟩;simp only[go_ret,zo,Vm.Fin]
 exact⟨trivial,[bI s],Xr rfl,rfl,(qG (ls:=[_]) (dJ _)).symm⟩
def ztq(hg:GW gl){n:Nat}{bs:List aN}{es:aC}{p:Nat}{t t':Nat}{u u':V}{null last bg sec:Bool}{s s':fS}(hs:lS s)(hs':lS s')(hb:nth bs p=some (.cells (xK (.bf t u) (.bf t' u') null last) 133))
  (Em:∀bs',(∀i,i<bs.length->nth bs' i=nth bs i)->zl prog gl (n+1) 282 [.ptr p 0,.bool bg] ⟨bs',[]⟩=some (.ret (.bool sec),⟨bs',[]⟩))
  (ha:∀bs',(∀i,i<bs.length->nth bs' i=nth bs i)->kg gl (n+1) Ku (.bf t u) [.bool bg] ⟨bs',[]⟩=some (.val (bI s),⟨bs',[]⟩))
  (Bv:∀bs',(∀i,i<bs.length->nth bs' i=nth bs i)->kg gl (n+1) Ku (.bf t' u') [.bool sec] ⟨bs',[]⟩=some (.val (bI s'),⟨bs',[]⟩)) :
  zl prog gl (n+2) 280 [.ptr p 0,.bool bg] ⟨bs,es⟩=some (.ret (bI (wL s s')),⟨bs,es⟩):=by
 have bu:p<bs.length:=kQ (H:=⟨bs,[]⟩) hb;have ek:∀x:aN,∀i,i<bs.length->nth (bs++[x]) i=nth bs i:=λx i hi=>kV (es:=[]) (ls:=[x]) hi;have hl:∀x:aN,zA prog ⟨bs++[x],[]⟩ gl.g 93 (.ptr p 0)=some (.bf t u):=λx=>zM (H:=⟨bs++[x],[]⟩) mU ((ek x p bu).trans hb) rfl
 have lH:∀x:aN,zA prog ⟨bs++[x],[]⟩ gl.g 93 (.ptr p 1)=some (.bf t' u'):=λx=>zM (H:=⟨bs++[x],[]⟩) mU ((ek x p bu).trans hb) rfl;have uS:Cx.cX ⟨prog,gl.g,zl prog gl (n+1),uR⟩ 282 [.ptr p 0,.bool bg] ⟨bs++[.cells (bI c_).cells 24],[]⟩=some (.val (.bool sec),⟨bs++[.cells (bI c_).cells 24],[]⟩):=zR func282 rfl (Em _ (ek _))
 have Bw:∀H,Cx.cX ⟨prog,gl.g,zl prog gl (n+1),uR⟩ 226 [bI s,bI s'] H=some (.val (bI (wL s s')),H):=λH=>zR func226 rfl (yM (hg.uni s s' hs hs'));have p6:=λenv=>jV (lk:=[]) (df:=[]) (env:=env) (ha (bs++[.cells (bI c_).cells 24]) (ek _));have bY:=λenv=>jV (lk:=[]) (df:=[]) (env:=env) (Bv (bs++[.cells (bI c_).cells 24]) (ek _));rw[hg.uq] at p6 bY
 refine qH (hg.hk _ _ (by decide)) (λH=>hg.fB _ _ _ _) func280 rfl ?_
 rw[hg.uq];simp only[f280,zc];refine ze ?_;simp only[zt,ah,zc,jf,au,aI,qc,fY,List.length_nil,eM,Nat.reduceAdd,iQ,gF,cM,cN,List.replicate,Nat.reduceSub,Pf]
 refine vZ [3,9] [9] [(false,false,false,false),(false,false,false,false),(false,false,false,false),(true,false,false,false),(false,false,false,false),(false,true,false,false),(false,false,false,false),(false,false,false,false),(false,false,false,false),(true,false,true,false),(false,false,false,false),(false,false,false,false),(false,true,false,false),(false,false,false,false),(false,false,false,false),(false,true,false,false),(false,true,false,false),(false,true,false,false)] (tk:=[]) (by kernel_rfl) (by kernel_rfl) ?_
 simp only[zr,zw,zC,zx,zj,jH,bt,zQ,aq,zh,zd,aI,zp,zu,cG,cA,bp,zq,a_,qn,fH,iC,Bm,fK,eM,rP,fW,zb,zg,cM,cN,l7,oh,l8,I7,iP,uP,I8,zlZ,kA,wo,jU,jy,mU,rA,tZ,hl,lH,uS,qo,zW,p6,bY,Bw,vf,ww,LM T_,T']
 refine⟨⟨q6 (p:=.ptr p 0) rfl (hl _) rfl,trivial⟩,⟨q6 (p:=.ptr p 1) rfl (lH _) rfl,trivial⟩,⟨q6 (p:=.ptr p 1) rfl (lH _) rfl,q6 (p:=.ptr p 0) rfl (hl _) rfl,trivial⟩,⟨q6 (p:=.ptr p 1) rfl (lH _) rfl,q6 (p:=.ptr p 0) rfl (hl _) rfl,trivial⟩,⟨q6 (p:=.ptr p 1) rfl (lH _) rfl,q6 (p:=.ptr p 0) rfl (hl _) rfl,trivial⟩,⟨q6 (p:=.ptr p 1) rfl (lH _) rfl,q6 (p:=.ptr p 0) rfl (hl _) rfl,trivial⟩,?_⟩
 simp only[go_ret,zo,Vm.Fin]
 exact⟨trivial,[bI (wL s s')],Xr rfl,rfl,(qG (ls:=[_]) (dJ _)).symm⟩
end
section
variable{gl:Gl}
def abF:prog.underlying 135=some (.slice 93):=by kernel_rfl
def En(vs:aj)(o:Vm.Own)(null last:Bool):aj:=[.sl 1 vs o,.bool null,.bool last]
def znQ{H:Hp}{vs:aj}{o:Vm.Own}:jM prog H 135 (.sl 1 vs o)=some (vs.length:Int):=by simp[jM]
def znR{vs:aj}{k:Nat}{v:V}{o:Vm.Own}(h:nth vs k=some v)(hv:v.cells=[v]):zO prog 135 (.sl 1 vs o) (k:Int)=some (.vp [v]):=by
 have hk:¬((k:Int)<0):=by omega
 simp[zO,T9,hk,h,hv]
def znS{H:Hp}{g:Nat->Nat->bS}{v:V}:zA prog H g 93 (.vp [v])=some v:=by simp[zA,kL,mU,nth,Kk]
def ztr(hg:GW gl){n:Nat}{bs:List aN}{es:aC}{p:Nat}{vs:aj}{o:Vm.Own}{null last bg:Bool}{c:Int}(hb:nth bs p=some (.cells (En vs o null last) 137))(K3:∀v∈vs,∃t u,v=.bf t u)
  (acc:Nat->Bool) (J:Nat->List aN->Prop) (Pg:acc 0=false) (hJp:∀k bs' x,J k bs'->J k (bs'.set p x)) (h0:J 0 bs) (hn:vs.length<n)  (hlen:vs.length<=2 ^ 40)
  (hs:∀k bs' v,nth vs k=some v->J k bs'->bs'.length=bs.length->nth bs' p=some (.cells (En vs o null (acc k)) 137)->∃iU r,kg gl n Ji v [.bool bg,.int .u8 c] ⟨bs',[]⟩=some (.val (.bool r),⟨iU,[]⟩)/\nth iU p=nth bs' p/\iU.length=bs'.length/\J (k+1) iU/\acc (k+1)=(acc k || r)) :
  ∃bs',zl prog gl (n+1) 286 [.ptr p 0,.bool bg,.int .u8 c] ⟨bs,es⟩=some (.ret (.bool (acc vs.length)),⟨bs',es⟩)/\J vs.length bs'/\bs'.length=bs.length/\nth bs' p=some (.cells (En vs o null (acc vs.length)) 137):=by
 have b8:∀(bs':List aN)(env:aj)(x y:Bool),nth bs' p=some (.cells (En vs o null y) 137)->qV prog 4 ⟨bs',[]⟩ [] [] (some (.bool x,env)) (some (.ptr p 2))=some (.skip,⟨env,⟨bs'.set p (.cells (En vs o null x) 137),[]⟩,[],[]⟩):=λbs' env x y h=>by
  rw[jn LK (H:=⟨bs',[]⟩) h rfl rfl (by simp[En]) (by simp[En,wK,locked])]
  simp only[Xq,Hp.set,V.laid,En,Vm.storeCells,cN,cM]
 have bu:p<bs.length:=kQ (H:=⟨bs,[]⟩) hb
 suffices eG:go ⟨prog,gl.g,zl prog gl n,gl.uq⟩ n (Fx prog f286.results.toList λv H1=>∃bs',v=.bool (acc vs.length)/\H1=⟨bs',[]⟩/\J vs.length bs'/\bs'.length=bs.length/\nth bs' p=some (.cells (En vs o null (acc vs.length)) 137)) [.c (f286.body.getD .skip)] .normal ⟨[.ptr p 0,.bool bg,.int .u8 c]++List.replicate 30 (.bx []),⟨bs,[]⟩,[],[]⟩ by
  obtain⟨v,H1,h1,bs',rfl,rfl,h2,h3,h4⟩:=jm (gl:=gl) (f:=286) (bs:=bs) (es:=es) (args:=[.ptr p 0,.bool bg,.int .u8 c]) (n:=n) (hg.hk _ _ (by decide)) (λH=>hg.fB _ _ _ _) func286 rfl eG
  refine⟨bs',?_,h2,h3,h4⟩;rw[h1];exact congrArg some (congrArg (Prod.mk _) (zJ h3.symm (dJ _)))
 simp only[f286,tS,zc];refine ze ?_;simp only[zt,ah,zc,zi,zH,aF,zn,au,aI,cA,iQ,gF,cM,cN,List.replicate]
 refine ze ?_;simp only[zt,ah,zc,zr,zC,zx,zj,aq,zH,aF,zd,au,bK,aI,zu,cG,cA,bp,zq,a_,eM,zb,zg,cM,cN,ua,b8 bs _ false last hb]
 obtain⟨Ah,Jj⟩:∃Ah,Ah=bs.set p (.cells (En vs o null false) 137):=⟨_,rfl⟩;have pg:nth Ah p=some (.cells (En vs o null (acc 0)) 137):=by rw[Jj,qw bu,Pg]
 have hJ0:J 0 Ah:=by rw[Jj];exact hJp _ _ _ h0
 have AP:Ah.length=bs.length:=by rw[Jj];simp
 rw[<- Jj];have lz:zA prog ⟨Ah,[]⟩ gl.g 135 (.ptr p 0)=some (.sl 1 vs o):=zM (H:=⟨Ah,[]⟩) FB pg rfl;refine ze ?_;simp only[zt,ah,zU,zr,zw,zx,zj,wU,aq,aF,zd,au,aI,zu,ME,cG,cA,bp,zq,a_,rP,zb,zg,cM,cN,t_,lz,znQ]
 refine km (λm s=>∃k env bs',m+k=vs.length/\s=⟨env,⟨bs',[]⟩,[],[]⟩/\env.length=33/\nth env 0=some (.ptr p 0)/\nth env 1=some (.bool bg)/\nth env 2=some (.int .u8 c)/\nth env 15=some (.sl 1 vs .no)/\nth env 16=some (.int .i64 vs.length)/\nth env 17=some (.int .i64 (k:Nat))/\bs'.length=bs.length/\J k bs'/\nth bs' p=some (.cells (En vs o null (acc k)) 137)) vs.length hn ⟨0,_,Ah,rfl,rfl,rfl,rfl,rfl,rfl,rfl,rfl,rfl,AP,hJ0,pg⟩ ?_
 clear lz pg hJ0 AP Jj Ah;rintro m s ⟨k,env,bs',Ck,rfl,aW,KV,h1,h2,h15,h16,Xs,lU,hJ,Rb⟩;simp only[zc];refine ze ?_;simp only[zt,ah,zc,bC,zU,zE,aq,zd,au,aI,zB,zp,zP,zY,aT,za,Nat.reduceLT,aT,h16,Xs,aW,jr]
 by_cases hk:k<vs.length
 ·refine .inl ⟨by simp;omega,?_⟩
  obtain⟨v,hv⟩:∃v,nth vs k=some v:=⟨vs[k],by rw[zf];simp[hk]⟩
  have hvm:v∈vs:=by rw[zf] at hv;exact oH hv
  obtain⟨vt,vu,rfl⟩:=K3 v hvm;obtain⟨iU,r,rR,Du,lH,hJ1,Ki⟩:=hs k bs' _ hv hJ lU Rb;have LP:=λenv=>jV (lk:=[]) (df:=[]) (env:=env) rR
  try simp only[bC,zc,zU]
  refine ze ?_;simp only[zt,ah,zc,zw,zi,qK,Nat.reduceEqDiff,aq,zh,zd,zn,au,aI,zB,On,ME,cG,cA,gW,aT,za,cI,Nat.reduceLT,aT,aZ,h15,Xs,aW,gW,znR hv rfl,znS,qo,qu]
  refine ze ?_;simp only[zt,ah,bC,wh,zr,Nat.reduceEqDiff,bt,zQ,aq,zd,au,aI,zB,zp,zP,zY,aT,za,cI,Nat.reduceLT,aT,aZ,h1,h2,aW,qo,zW,LP]
  cases r with
  | false =>
   rw[Bool.or_false] at Ki;simp only[bH,pJ,Cg,fK];refine ze ?_;simp only[zt,ah,zr,zE,Nat.reduceEqDiff,aq,aF,zd,au,aI,zB,aT,za,cI,Nat.reduceLT,aT,aZ,Xs,aW,qf (show k<2 ^ 60 by omega),zo,bL]
   refine⟨vs.length - (k+1),by omega,k+1,_,iU,by omega,rfl,?_,?_,?_,?_,?_,?_,?_,by omega,hJ1,?_⟩
   ·simp[aW]
   ·simp[za,KV]
   ·simp[za,h1]
   ·simp[za,h2]
   ·simp[za,h15]
   ·simp[za,h16]
   ·simp[za,aW]
   ·rw[Du,Rb,Ki]
  | true =>
   rw[Bool.or_true] at Ki;simp only[fK,Cz,pJ,E1];refine ze ?_;simp only[zt,ah,wh,zr,zC,zx,zj,Nat.reduceEqDiff,aq,zH,aF,zd,au,bK,aI,zu,cG,cA,bp,zq,a_,eM,aT,za,cI,Nat.reduceLT,aT,aZ,KV,aW,ua,b8 iU _ true _ (Du.trans Rb)]
   refine ze ?_;simp only[zt,ah,zr,zE,Nat.reduceEqDiff,aq,aF,zd,au,aI,zB,aT,za,cI,Nat.reduceLT,aT,aZ,Xs,aW,qf (show k<2 ^ 60 by omega),zo,bL]
   refine⟨vs.length - (k+1),by omega,k+1,_,iU.set p (.cells (En vs o null true) 137),by omega,rfl,?_,?_,?_,?_,?_,?_,?_,by simp;omega,hJp _ _ _ hJ1,?_⟩
   ·simp[aW]
   ·simp[za,KV]
   ·simp[za,h1]
   ·simp[za,h2]
   ·simp[za,h15]
   ·simp[za,h16]
   ·simp[za,aW]
   ·rw[qw (by omega),Ki]
 ·refine .inr ⟨by simp;omega,?_⟩
  obtain rfl:k=vs.length:=by omega
  have abJ:zA prog ⟨bs',[]⟩ gl.g 4 (.ptr p 2)=some (.bool (acc vs.length)):=zM (H:=⟨bs',[]⟩) El Rb rfl;simp only[jY,q8,qB,zo,dV,zc,pP,aT,zo];refine ze ?_;simp only[zt,ah,zr,zw,zi,zx,zj,Nat.reduceEqDiff,aq,zh,zv,zd,zn,au,aI,zp,zu,cG,cA,bp,zq,a_,eM,aT,za,cI,Nat.reduceLT,aT,aZ,KV,aW,ua,abJ]
  simp only[go_ret,zo,Fx]
  refine⟨trivial,[.bool (acc vs.length)],?_,bs',rfl,rfl,hJ,lU,Rb⟩;simp[zG,za,aW]
end
section
variable{gl:Gl}
def Ub{bs:List aN}{es:aC}{x y:aN}:Hp.get ⟨bs++[x,y],es⟩ (bs.length+1)=some y:=Vm.get_at (k:=1)
def Uc{bs:List aN}{es:aC}{x y:aN}:Hp.get ⟨bs++[x,y],es⟩ bs.length=some x:=Vm.lq
def znT{bs:List aN}{es:aC}{x y z:aN}:Hp.set ⟨bs++[x,y],es⟩ (bs.length+1) z=⟨bs++[x,z],es⟩:=Vm.D9 (k:=1)
def znU{bs:List aN}{es:aC}{x y z:aN}:Hp.set ⟨bs++[x,y],es⟩ bs.length z=⟨bs++[z,y],es⟩:=Vm.BD
def zts(hg:GW gl){n:Nat}{bs:List aN}{es:aC}{p:Nat}{vs:aj}{o:Vm.Own}{null last bg:Bool}(hb:nth bs p=some (.cells (En vs o null last) 137))(K3:∀v∈vs,∃t u,v=.bf t u)
  (acc:Nat->fS) (Pg:acc 0=c_) (R4:∀k,lS (acc k)) (hn:vs.length<n+1) (hlen:vs.length<=2 ^ 40)
  (hs:∀k v bs',nth vs k=some v->(∀i,i<bs.length->nth bs' i=nth bs i)->∃s,kg gl (n+1) Ku v [.bool bg] ⟨bs',[]⟩=some (.val (bI s),⟨bs',[]⟩)/\lS s/\acc (k+1)=wL (acc k) s) :
  zl prog gl (n+2) 285 [.ptr p 0,.bool bg] ⟨bs,es⟩=some (.ret (bI (acc vs.length)),⟨bs,es⟩):=by
 have bu:p<bs.length:=kQ (H:=⟨bs,[]⟩) hb;have ek:∀l:List aN,∀i,i<bs.length->nth (bs++l) i=nth bs i:=λl i hi=>kV (es:=[]) (ls:=l) hi
 suffices eG:go ⟨prog,gl.g,zl prog gl (n+1),gl.uq⟩ (n+1) (Fx prog f285.results.toList λv H1=>∃l,v=bI (acc vs.length)/\H1=⟨bs++l,[]⟩) [.c (f285.body.getD .skip)] .normal ⟨[.ptr p 0,.bool bg]++List.replicate 22 (.bx []),⟨bs,[]⟩,[],[]⟩ by
  obtain⟨v,H1,h1,l,rfl,rfl⟩:=jm (gl:=gl) (f:=285) (bs:=bs) (es:=es) (args:=[.ptr p 0,.bool bg]) (n:=n+1) (hg.hk _ _ (by decide)) (λH=>hg.fB _ _ _ _) func285 rfl eG
  rw[h1];exact congrArg some (congrArg (Prod.mk _) (qG (dJ _)))
 rw[hg.uq];simp only[f285,tS,zc];refine ze ?_;simp only[zt,ah,zc,jf,au,aI,qc,iQ,gF,cM,cN,List.replicate,Pf]
 refine ze ?_;simp only[zt,ah,zc,jf,au,aI,qc,oI,fY,List.length_nil,eM,nI,iQ,gF,cM,cN,Pf]
 have lz:∀x y,zA prog ⟨bs++[x,y],[]⟩ gl.g 135 (.ptr p 0)=some (.sl 1 vs o):=λx y=>zM (H:=⟨bs++[x,y],[]⟩) FB ((ek _ p bu).trans hb) rfl;refine ze ?_;simp only[zt,ah,zU,zr,zw,zx,zj,wU,aq,aF,zd,au,aI,zu,ME,cG,cA,bp,zq,a_,rP,zb,zg,cM,cN,t_,lz,znQ]
 refine km (λm s=>∃k env,m+k=vs.length/\s=⟨env,⟨bs++[.cells (bI c_).cells 24,.cells (bI (acc k)).cells 24],[]⟩,[],[]⟩/\env.length=24/\nth env 1=some (.bool bg)/\nth env 4=some (.ptr bs.length 0)/\nth env 5=some (.ptr (bs.length+1) 0)/\nth env 11=some (.sl 1 vs .no)/\nth env 12=some (.int .i64 vs.length)/\nth env 13=some (.int .i64 (k:Nat))) vs.length hn ⟨0,_,rfl,by rw[Pg],rfl,rfl,rfl,rfl,rfl,rfl,rfl⟩ ?_
 clear lz;rintro m s ⟨k,env,Ck,rfl,aW,h1,h4,h5,M6,h12,h13⟩;simp only[zc];refine ze ?_;simp only[zt,ah,zc,bC,zU,zE,aq,zd,au,aI,zB,zp,zP,zY,aT,za,Nat.reduceLT,aT,h12,h13,aW,jr]
 by_cases hk:k<vs.length
 ·refine .inl ⟨by simp;omega,?_⟩
  obtain⟨v,hv⟩:∃v,nth vs k=some v:=⟨vs[k],by rw[zf];simp[hk]⟩
  have hvm:v∈vs:=by rw[zf] at hv;exact oH hv
  obtain⟨vt,vu,rfl⟩:=K3 v hvm;obtain⟨s,rR,R5,Ki⟩:=hs k _ (bs++[.cells (bI c_).cells 24,.cells (bI (acc k)).cells 24]) hv (ek _);have LP:=λenv=>jV (lk:=[]) (df:=[]) (env:=env) rR;rw[hg.uq] at LP;have Bw:∀H,Cx.cX ⟨prog,gl.g,zl prog gl (n+1),uR⟩ 226 [bI (acc k),bI s] H=some (.val (bI (wL (acc k) s)),H):=λH=>zR func226 rfl (yM (hg.uni _ s (R4 k) R5))
  have Ak:zA prog ⟨bs++[.cells (bI c_).cells 24,.cells (bI (acc k)).cells 24],[]⟩ gl.g 24 (.ptr (bs.length+1) 0)=some (bI (acc k)):=LL Ub
  try simp only[bC,zc,zU]
  refine ze ?_;simp only[zt,ah,zw,zi,qK,Nat.reduceEqDiff,aq,zh,zd,zn,au,aI,zB,On,ME,cG,cA,gW,aT,za,cI,Nat.reduceLT,aT,aZ,M6,h13,aW,gW,znR hv rfl,znS,qo,qu]
  refine vZ [0] [] [(true,false,false,false),(false,false,false,false),(false,false,false,false),(false,true,false,false),(false,true,false,true),(false,true,false,true)] (tk:=[]) (by kernel_rfl) (by kernel_rfl) ?_
  simp only[wh,zr,zw,zC,jH,Nat.reduceEqDiff,bt,zQ,aq,zh,zd,aI,zp,zu,cG,cA,qn,fH,iC,Bm,fK,fW,aT,za,cI,Nat.reduceLT,aT,aZ,l7,oh,l8,iP,om,mS,kA,wo,jU,jy,C5,h1,h5,aW,Ak,ww,qo,zW,LP,Bw,vf,LM Ub,znT]
  have Dt:aq ((((env.set 14 (V.bool (decide ((k:Int)<(vs.length:Int))))).set 15 (V.vp [V.bf vt vu])).set 16 (V.bf vt vu)).set 7 (V.bf vt vu)) (.tmp 5)=some (.ptr (bs.length+1) 0):=by simp[aq,za,h5,aX]
  refine⟨rfl,⟨q6 Dt Ak rfl,trivial⟩,?_⟩;refine ze ?_;simp only[zt,ah,zr,zE,Nat.reduceEqDiff,aq,aF,zd,au,aI,zB,aT,za,cI,Nat.reduceLT,aT,aZ,h13,aW,qf (show k<2 ^ 60 by omega),zo,bL]
  refine⟨vs.length - (k+1),by omega,k+1,_,by omega,by rw[Ki],?_,?_,?_,?_,?_,?_,?_⟩
  ·simp[aW]
  ·simp[za,h1]
  ·simp[za,h4]
  ·simp[za,h5]
  ·simp[za,M6]
  ·simp[za,h12]
  ·simp[za,aW]
 ·refine .inr ⟨by simp;omega,?_⟩
  obtain rfl:k=vs.length:=by omega
  have Ak:zA prog ⟨bs++[.cells (bI c_).cells 24,.cells (bI (acc vs.length)).cells 24],[]⟩ gl.g 24 (.ptr (bs.length+1) 0)=some (bI (acc vs.length)):=LL Ub;simp only[jY,q8,qB,zo,dV,zc,pP,aT,zo];refine ze ?_;simp only[zt,ah,zw,zC,Nat.reduceEqDiff,aq,zh,zd,au,bK,aI,zu,cG,cA,aT,za,cI,Nat.reduceLT,aT,aZ,h4,h5,aW,Ak,ww,vf,LM Uc,znU]
  simp only[go_ret,zo,Fx]
  refine⟨trivial,[bI (acc vs.length)],?_,_,rfl,rfl⟩;simp only[zG,za,aW,h4,Nat.reduceEqDiff,aZ,LL (s:=acc vs.length) Uc,ww]
end
section
inductive Wd where
 |mZ|one (s:fS) (m:Bool)|both (a b:Wd) (null last:Bool)|alt (l:List Wd) (null last:Bool)|rep (w:Wd) (loop null:Bool)
def gJ:Wd->Bool
 | .mZ=>true|.one _ _=>false|.both _ _ n _=>n|.alt _ n _=>n|.rep _ _ n=>n
def m5:Wd->Bool
 | .mZ=>false|.one _ m=>m|.both _ _ _ l=>l|.alt _ _ l=>l|.rep w _ _=>m5 w
mutual
def fu:Wd->Bool->Nat->Wd×Bool
 | .mZ,_,_=>(.mZ,false)
 | .one s _,bg,c=>(.one s (bg && qN s c),bg && qN s c)
 | .both x y n _,bg,c=>(.both (fu x bg c).1 (fu y (bg && gJ x || m5 x) c).1 n ((fu y (bg && gJ x || m5 x) c).2 || (fu x bg c).2 && gJ y),(fu y (bg && gJ x || m5 x) c).2 || (fu x bg c).2 && gJ y)
 | .alt l n _,bg,c=>(.alt (sJ l bg c).1 n (sJ l bg c).2,(sJ l bg c).2)
 | .rep w lp n,bg,c=>(.rep (fu w (bg || lp && m5 w) c).1 lp n,(fu w (bg || lp && m5 w) c).2)
def sJ:List Wd->Bool->Nat->List Wd×Bool
 | [],_,_=>([],false)
 | w::l,bg,c=>((fu w bg c).1::(sJ l bg c).1,(fu w bg c).2 || (sJ l bg c).2)
end
mutual
def tP:Wd->Bool->fS
 | .mZ,_=>c_
 | .one s _,bg=>if bg then s else c_
 | .both x y _ _,bg=>wL (tP x bg) (tP y (bg && gJ x || m5 x))
 | .alt l _ _,bg=>sK l bg c_
 | .rep w lp _,bg=>tP w (bg || lp && m5 w)
def sK:List Wd->Bool->fS->fS
 | [],_,s=>s
 | w::l,bg,s=>sK l bg (wL s (tP w bg))
end
mutual
def FW:Wd->Nat
 | .mZ=>1|.one _ _=>2|.both a b _ _=>max (FW a) (FW b)+2|.alt l _ _=>Eo l+l.length+2|.rep w _ _=>FW w+2
def Eo:List Wd->Nat
 | []=>0|w::l=>max (FW w) (Eo l)
end
mutual
def Ap:Wd->Prop
 | .mZ=>True|.one s _=>lS s|.both a b _ _=>Ap a/\Ap b|.alt l _ _=>sL l/\l.length<=2 ^ 40|.rep w _ _=>Ap w
def sL:List Wd->Prop
 | []=>True|w::l=>Ap w/\sL l
end
mutual
def At(bs:List aN):Wd->Nat->Nat->V->Prop
 | .mZ,lo,hi,v=>lo<=hi/\v=.bf 127 (.agg [])
 | .one s m,lo,hi,v=>∃p,lo<=p/\p<hi/\v=.bf 123 (.ptr p 0)/\nth bs p=some (.cells (yj s m) 125)
 | .both a b nl la,lo,hi,v=>∃p m1 m2 va vb,At bs b lo m1 vb/\At bs a m1 m2 va/\m2<=p/\p<hi/\v=.bf 131 (.ptr p 0)/\nth bs p=some (.cells (xK va vb nl la) 133)
 | .alt l nl la,lo,hi,v=>∃p m1 vs o,lo<=p/\p<m1/\uT bs l m1 hi vs/\v=.bf 134 (.ptr p 0)/\nth bs p=some (.cells (En vs o nl la) 137)
 | .rep w lp nl,lo,hi,v=>∃p m1 vw,At bs w lo m1 vw/\m1<=p/\p<hi/\v=.bf 138 (.ptr p 0)/\nth bs p=some (.cells (Gy vw lp nl) 140)
def uT(bs:List aN):List Wd->Nat->Nat->aj->Prop
 | [],lo,hi,vs=>lo<=hi/\vs=[]
 | w::l,lo,hi,vs=>∃m v oz,vs=v::oz/\At bs w lo m v/\uT bs l m hi oz
end
mutual
def At.le{bs:List aN}:∀{w:Wd}{lo hi:Nat}{v:V},At bs w lo hi v->lo<=hi
 | .mZ,_,_,_,h=>h.1
 | .one _ _,_,_,_,⟨p,h1,h2,_⟩=>by omega
 | .both _ _ _ _,_,_,_,⟨p,m1,m2,va,vb,h1,h2,h3,h4,_⟩=>by have:=h1.le;have:=h2.le;omega
 | .alt _ _ _,_,_,_,⟨p,m1,vs,o,h1,h2,h3,_⟩=>by have:=h3.le;omega
 | .rep _ _ _,_,_,_,⟨p,m1,vw,h1,h2,h3,_⟩=>by have:=h1.le;omega
def uT.le{bs:List aN}:∀{l:List Wd}{lo hi:Nat}{vs:aj},uT bs l lo hi vs->lo<=hi
 | [],_,_,_,h=>h.1
 | _::_,_,_,_,⟨m,v,oz,_,h1,h2⟩=>by have:=h1.le;have:=h2.le;omega
end
mutual
def At.frame{bs bs':List aN}:∀{w:Wd}{lo hi:Nat}{v:V},At bs w lo hi v->(∀i,lo<=i->i<hi->nth bs' i=nth bs i)->At bs' w lo hi v
 | .mZ,_,_,_,h,_=>h
 | .one _ _,_,_,_,⟨p,h1,h2,h3,h4⟩,hf=>⟨p,h1,h2,h3,(hf p h1 h2).trans h4⟩
 | .both _ _ _ _,_,_,_,⟨p,m1,m2,va,vb,h1,h2,h3,h4,h5,h6⟩,hf=>by
  have l1:=h1.le;have l2:=h2.le;exact⟨p,m1,m2,va,vb,h1.frame λi a b=>hf i a (by omega),h2.frame λi a b=>hf i (by omega) (by omega),h3,h4,h5,(hf p (by omega) h4).trans h6⟩
 | .alt _ _ _,_,_,_,⟨p,m1,vs,o,h1,h2,h3,h5,h6⟩,hf=>by
  have l1:=h3.le;exact⟨p,m1,vs,o,h1,h2,h3.frame λi a b=>hf i (by omega) b,h5,(hf p h1 (by omega)).trans h6⟩
 | .rep _ _ _,_,_,_,⟨p,m1,vw,h1,h2,h3,h5,h6⟩,hf=>by
  have l1:=h1.le;exact⟨p,m1,vw,h1.frame λi a b=>hf i a (by omega),h2,h3,h5,(hf p (by omega) h3).trans h6⟩
def uT.frame{bs bs':List aN}:∀{l:List Wd}{lo hi:Nat}{vs:aj},uT bs l lo hi vs->(∀i,lo<=i->i<hi->nth bs' i=nth bs i)->uT bs' l lo hi vs
 | [],_,_,_,h,_=>h
 | _::_,_,_,_,⟨m,v,oz,e,h1,h2⟩,hf=>by
  have l1:=h1.le;have l2:=h2.le;exact⟨m,v,oz,e,h1.frame λi a b=>hf i a (by omega),h2.frame λi a b=>hf i (by omega) b⟩
end
mutual
def At.nw{bs:List aN}:∀{w:Wd}{lo hi lo' tF:Nat}{v:V},At bs w lo hi v->lo'<=lo->hi<=tF->At bs w lo' tF v
 | .mZ,_,_,_,_,_,h,a,b=>⟨by have:=h.1;omega,h.2⟩
 | .one _ _,_,_,_,_,_,⟨p,h1,h2,h3⟩,a,b=>⟨p,by omega,by omega,h3⟩
 | .both _ _ _ _,_,_,_,_,_,⟨p,m1,m2,va,vb,h1,h2,h3,h4,h5⟩,a,b=>⟨p,m1,m2,va,vb,h1.nw a (bV _),h2,h3,by omega,h5⟩
 | .alt _ _ _,_,_,_,_,_,⟨p,m1,vs,o,h1,h2,h3,h5⟩,a,b=>⟨p,m1,vs,o,by omega,h2,h3.nw (bV _) b,h5⟩
 | .rep _ _ _,_,_,_,_,_,⟨p,m1,vw,h1,h2,h3,h5⟩,a,b=>⟨p,m1,vw,h1.nw a (bV _),h2,by omega,h5⟩
def uT.nw{bs:List aN}:∀{l:List Wd}{lo hi lo' tF:Nat}{vs:aj},uT bs l lo hi vs->lo'<=lo->hi<=tF->uT bs l lo' tF vs
 | [],_,_,_,_,_,h,a,b=>⟨by have:=h.1;omega,h.2⟩
 | _::_,_,_,_,_,_,⟨m,v,oz,e,h1,h2⟩,a,b=>⟨m,v,oz,e,h1.nw a (bV _),h2.nw (bV _) b⟩
end
def At.bf{bs:List aN}:∀{w:Wd}{lo hi:Nat}{v:V},At bs w lo hi v->∃t u,v=.bf t u
 | .mZ,_,_,_,h=>⟨_,_,h.2⟩
 | .one _ _,_,_,_,⟨_p,_h1,_h2,h3,_h4⟩=>⟨_,_,h3⟩
 | .both _ _ _ _,_,_,_,⟨_p,_m1,_m2,_va,_vb,_h1,_h2,_h3,_h4,h5,_h6⟩=>⟨_,_,h5⟩
 | .alt _ _ _,_,_,_,⟨_p,_m1,_vs,_o,_h1,_h2,_h3,h5,_h6⟩=>⟨_,_,h5⟩
 | .rep _ _ _,_,_,_,⟨_p,_m1,_vw,_h1,_h2,_h3,h5,_h6⟩=>⟨_,_,h5⟩
def uT.bf{bs:List aN}:∀{l:List Wd}{lo hi:Nat}{vs:aj},uT bs l lo hi vs->∀v∈vs,∃t u,v=.bf t u
 | [],_,_,_,h,v,hv=>by rw[h.2] at hv;cases hv
 | _::_,_,_,_,⟨m,v,oz,e,h1,h2⟩,u,hu=>by
  subst e;rcases cS.1 hu with rfl|hu
  ·exact h1.bf
  ·exact h2.bf u hu
def uT.len{bs:List aN}:∀{l:List Wd}{lo hi:Nat}{vs:aj},uT bs l lo hi vs->vs.length=l.length
 | [],_,_,_,h=>by rw[h.2];rfl
 | _::_,_,_,_,⟨m,v,oz,e,h1,h2⟩=>by subst e;simp[h2.len]
def uT.at_{bs:List aN}:∀{l:List Wd}{lo hi:Nat}{vs:aj}{k:Nat}{w:Wd},uT bs l lo hi vs->l[k]?=some w->∃m m' v,nth vs k=some v/\At bs w m m' v/\lo<=m/\m'<=hi /\
  ∀bs' w',At bs' w' m m' v->(∀i,¬(m<=i/\i<m')->nth bs' i=nth bs i)->uT bs' (l.set k w') lo hi vs
 | [],_,_,_,_,_,_,hk=>by simp at hk
 | x::l,lo,hi,_,0,w,⟨m,v,oz,e,h1,h2⟩,hk=>by
  simp only[Ce,aO] at hk;subst hk;subst e;exact⟨lo,m,v,rfl,h1,bV _,h2.le,λbs' w' h3 hf=>⟨m,v,oz,rfl,h3,h2.frame λi a b=>hf i (by omega)⟩⟩
 | x::l,lo,hi,_,k+1,w,⟨m,v,oz,e,h1,h2⟩,hk=>by
  subst e;obtain⟨a,b,u,g1,g2,g3,g4,g5⟩:=h2.at_ (k:=k) (w:=w) (by simpa using hk)
  have l1:=h1.le;exact⟨a,b,u,g1,g2,by omega,g4,λbs' w' h3 hf=>⟨m,v,oz,rfl,h1.frame λi c d=>hf i (by omega),g5 bs' w' h3 hf⟩⟩
def uU:∀(l:List Wd)(bg:Bool)(c:Nat),(sJ l bg c).1=l.map λw=>(fu w bg c).1
 | [],_,_=>by simp[sJ]
 | w::l,bg,c=>by simp[sJ,uU l]
def Jk:∀(l:List Wd)(bg:Bool)(c:Nat),(sJ l bg c).2=l.any λw=>(fu w bg c).2
 | [],_,_=>by simp[sJ]
 | w::l,bg,c=>by simp[sJ,Jk l]
def BV:∀(l:List Wd)(bg:Bool)(s:fS),sK l bg s=l.foldl (λs w=>wL s (tP w bg)) s
 | [],_,_=>by simp[sK]
 | w::l,bg,s=>by simp[sK,BV l]
def Ep:∀{l:List Wd}{w:Wd},w∈l->FW w<=Eo l
 | x::l,w,h=>by
  simp only[Eo];rcases cS.1 h with rfl|h
  ·omega
  ·have:=Ep h;omega
def sL.mem:∀{l:List Wd}{w:Wd},sL l->w∈l->Ap w
 | x::l,w,hr,h=>by
  rcases cS.1 h with rfl|h
  ·exact hr.1
  ·exact hr.2.mem h
mutual
def tv:∀(w:Wd)(bg:Bool),Ap w->lS (tP w bg)
 | .mZ,_,_=>by simp only[tP];exact Gx
 | .one s _,bg,h=>by simp only[tP];cases bg<;>first|exact Gx|exact h
 | .both x y _ _,bg,h=>by simp only[tP];exact Pe (tv x _ h.1) (tv y _ h.2)
 | .alt l _ _,bg,h=>by simp only[tP];exact Er l _ _ h.1 Gx
 | .rep w lp _,bg,h=>by simp only[tP];exact tv w _ h
def Er:∀(l:List Wd)(bg:Bool)(s:fS),sL l->lS s->lS (sK l bg s)
 | [],_,_,_,hs=>by simp only[sK];exact hs
 | w::l,bg,s,h,hs=>by simp only[sK];exact Er l _ _ h.2 (Pe hs (tv w _ h.1))
end
def FC:∀{l:List Wd},sL l->∀k,sL (l.take k)
 | [],_,k=>by simp[sL]
 | w::l,h,0=>by simp[sL]
 | w::l,h,k+1=>by simp only[List.take_succ_cons];exact⟨h.1,FC h.2 k⟩
end
section
variable{gl:Gl}
def M7:qJ prog 127 (.agg []) LN=some (274,.agg []):=by kernel_rfl
def Ud:qJ prog 127 (.agg []) LO=some (275,.agg []):=by kernel_rfl
def Ue:qJ prog 127 (.agg []) Ku=some (276,.agg []):=by kernel_rfl
def M8:qJ prog 127 (.agg []) Ji=some (277,.agg []):=by kernel_rfl
def zqd(p:Nat):qJ prog 123 (.ptr p 0) LN=some (270,.ptr p 0):=by kernel_rfl
def zr2(p:Nat):qJ prog 123 (.ptr p 0) LO=some (271,.ptr p 0):=by kernel_rfl
def zr3(p:Nat):qJ prog 123 (.ptr p 0) Ku=some (272,.ptr p 0):=by kernel_rfl
def zqe(p:Nat):qJ prog 123 (.ptr p 0) Ji=some (273,.ptr p 0):=by kernel_rfl
def zqf(p:Nat):qJ prog 131 (.ptr p 0) LN=some (278,.ptr p 0):=by kernel_rfl
def zr4(p:Nat):qJ prog 131 (.ptr p 0) LO=some (279,.ptr p 0):=by kernel_rfl
def zr5(p:Nat):qJ prog 131 (.ptr p 0) Ku=some (280,.ptr p 0):=by kernel_rfl
def zqg(p:Nat):qJ prog 131 (.ptr p 0) Ji=some (281,.ptr p 0):=by kernel_rfl
def zqh(p:Nat):qJ prog 134 (.ptr p 0) LN=some (283,.ptr p 0):=by kernel_rfl
def zr6(p:Nat):qJ prog 134 (.ptr p 0) LO=some (284,.ptr p 0):=by kernel_rfl
def zr7(p:Nat):qJ prog 134 (.ptr p 0) Ku=some (285,.ptr p 0):=by kernel_rfl
def zqi(p:Nat):qJ prog 134 (.ptr p 0) Ji=some (286,.ptr p 0):=by kernel_rfl
def zqj(p:Nat):qJ prog 138 (.ptr p 0) LN=some (287,.ptr p 0):=by kernel_rfl
def zr8(p:Nat):qJ prog 138 (.ptr p 0) LO=some (288,.ptr p 0):=by kernel_rfl
def zr9(p:Nat):qJ prog 138 (.ptr p 0) Ku=some (289,.ptr p 0):=by kernel_rfl
def zqk(p:Nat):qJ prog 138 (.ptr p 0) Ji=some (290,.ptr p 0):=by kernel_rfl
def M9(hg:GW gl){w:Wd}{bs:List aN}{lo hi:Nat}{v:V}(h:At bs w lo hi v){n:Nat}(hn:1<=n)(es:aC):kg gl n LN v [] ⟨bs,es⟩=some (.val (.bool (gJ w)),⟨bs,es⟩):=by
 obtain⟨n,rfl⟩:∃k,n=k+1:=⟨n - 1,by omega⟩
 cases w with
 | mZ=>obtain⟨_,rfl⟩:=h;exact qT M7 func274 rfl rfl (ztg hg (_bg:=false) (_c:=0))
 | one s m=>obtain⟨p,_,_,rfl,h4⟩:=h;exact qT (zqd p) func270 rfl rfl (ztf hg)
 | both a b nl la=>obtain⟨p,m1,m2,va,vb,h1,h2,h3,h4,rfl,h6⟩:=h;exact qT (zqf p) func278 rfl rfl (zta hg h6 rfl)
 | alt l nl la=>obtain⟨p,m1,vs,o,h1,h2,h3,rfl,h6⟩:=h;exact qT (zqh p) func283 rfl rfl (ztc hg h6 rfl)
 | rep w lp nl=>obtain⟨p,m1,vw,h1,h2,h3,rfl,h6⟩:=h;exact qT (zqj p) func287 rfl rfl (zte hg h6 rfl)
def Uf(hg:GW gl):∀{w:Wd}{bs:List aN}{lo hi:Nat}{v:V},At bs w lo hi v->∀{n:Nat},FW w<=n->∀(es:aC),kg gl n LO v [] ⟨bs,es⟩=some (.val (.bool (m5 w)),⟨bs,es⟩)
 | .mZ,bs,lo,hi,v,h,n,hn,es=>by
  obtain⟨n,rfl⟩:∃k,n=k+1:=⟨n - 1,by simp only[FW] at hn;omega⟩
  obtain⟨_,rfl⟩:=h;exact qT Ud func275 rfl rfl (zth hg (_bg:=false) (_c:=0))
 | .one s m,bs,lo,hi,v,h,n,hn,es=>by
  obtain⟨n,rfl⟩:∃k,n=k+1:=⟨n - 1,by simp only[FW] at hn;omega⟩
  obtain⟨p,_,_,rfl,h4⟩:=h;exact qT (zr2 p) func271 rfl rfl (zs9 hg h4 rfl)
 | .both a b nl la,bs,lo,hi,v,h,n,hn,es=>by
  obtain⟨n,rfl⟩:∃k,n=k+1:=⟨n - 1,by simp only[FW] at hn;omega⟩
  obtain⟨p,m1,m2,va,vb,h1,h2,h3,h4,rfl,h6⟩:=h;exact qT (zr4 p) func279 rfl rfl (ztb hg h6 rfl)
 | .alt l nl la,bs,lo,hi,v,h,n,hn,es=>by
  obtain⟨n,rfl⟩:∃k,n=k+1:=⟨n - 1,by simp only[FW] at hn;omega⟩
  obtain⟨p,m1,vs,o,h1,h2,h3,rfl,h6⟩:=h;exact qT (zr6 p) func284 rfl rfl (ztd hg h6 rfl)
 | .rep w lp nl,bs,lo,hi,v,h,n,hn,es=>by
  obtain⟨n,rfl⟩:∃k,n=k+1:=⟨n - 1,by simp only[FW] at hn;omega⟩
  simp only[FW] at hn;obtain⟨p,m1,vw,h1,h2,h3,rfl,h6⟩:=h;obtain⟨t,u,rfl⟩:=h1.bf;exact qT (zr8 p) func288 rfl rfl (ztm hg h6 rfl (Uf hg h1 (by omega) []))
def Ph(w:Wd):1<=FW w:=by cases w<;>simp only[FW]<;>omega
def Ug{bs bs':List aN}(hf:∀i,i<bs.length->nth bs' i=nth bs i):bs.length<=bs'.length:=by
 rcases iT bs'.length bs.length with hl|hl
 ·have e:=hf bs'.length hl;rw[zf,zf,tE (bV _),lB hl] at e;cases e
 ·exact hl
def Uh(hg:GW gl):∀(N:Nat){w:Wd}{bs:List aN}{lo hi:Nat}{v:V},At bs w lo hi v->Ap w->hi<=bs.length->FW w<=N->∀{n:Nat},FW w<=n->∀(bg:Bool)(es:aC),kg gl n Ku v [.bool bg] ⟨bs,es⟩=some (.val (bI (tP w bg)),⟨bs,es⟩)
 | 0,w,bs,lo,hi,v,h,hr,hh,hN,n,hn,bg,es=>by have:=Ph w;omega
 | N+1,.mZ,bs,lo,hi,v,h,hr,hh,hN,n,hn,bg,es=>by
  obtain⟨n,rfl⟩:∃k,n=k+1:=⟨n - 1,by simp only[FW] at hn;omega⟩
  obtain⟨_,rfl⟩:=h;exact qT Ue func276 rfl rfl (ztl hg)
 | N+1,.one s m,bs,lo,hi,v,h,hr,hh,hN,n,hn,bg,es=>by
  obtain⟨n,rfl⟩:∃k,n=k+1:=⟨n - 1,by simp only[FW] at hn;omega⟩
  obtain⟨p,_,_,rfl,h4⟩:=h;exact qT (zr3 p) func272 rfl rfl (ztk hg h4)
 | N+1,.both a b nl la,bs,lo,hi,v,h,hr,hh,hN,n,hn,bg,es=>by
  simp only[FW] at hn hN;obtain⟨n,rfl⟩:∃k,n=k+2:=⟨n - 2,by omega⟩
  obtain⟨p,m1,m2,va,vb,h1,h2,h3,h4,rfl,h6⟩:=h;obtain⟨t,u,rfl⟩:=h2.bf;obtain⟨t',u',rfl⟩:=h1.bf;have l1:=h1.le;have l2:=h2.le;have f1:∀bs',(∀i,i<bs.length->nth bs' i=nth bs i)->At bs' b lo m1 (.bf t' u'):=λbs' hf=>h1.frame λi a b=>hf i (by omega)
  have f2:∀bs',(∀i,i<bs.length->nth bs' i=nth bs i)->At bs' a m1 m2 (.bf t u):=λbs' hf=>h2.frame λi a b=>hf i (by omega)
  refine qT (zr5 p) func280 rfl rfl ?_;simp only[tP];refine ztq hg (sec:=bg && gJ a || m5 a) (tv a _ hr.1) (tv b _ hr.2) h6 (λbs' hf=>?_) (λbs' hf=>?_) (λbs' hf=>?_)
  ·have:=Ug hf;exact zr0 hg ((hf p (by omega)).trans h6) rfl (M9 hg (f2 bs' hf) (by have:=Ph a;omega) []) (Uf hg (f2 bs' hf) (by omega) [])
  ·have:=Ug hf;exact Uh hg N (f2 bs' hf) hr.1 (by omega) (by omega) (by omega) bg []
  ·have:=Ug hf;exact Uh hg N (f1 bs' hf) hr.2 (by omega) (by omega) (by omega) _ []
 | N+1,.alt l nl la,bs,lo,hi,v,h,hr,hh,hN,n,hn,bg,es=>by
  simp only[FW] at hn hN;obtain⟨n,rfl⟩:∃k,n=k+2:=⟨n - 2,by omega⟩
  obtain⟨p,m1,vs,o,h1,h2,h3,rfl,h6⟩:=h;have hlen:=h3.len;refine qT (zr7 p) func285 rfl rfl ?_
  have key:=zts hg (es:=es) (n:=n) (bg:=bg) h6 h3.bf (λk=>sK (l.take k) bg c_) (by simp[sK]) (λk=>Er _ _ _ (FC hr.1 k) Gx) (by omega) (by have:=hr.2;omega) (λk v bs' hv hf=>by
   have hk:k<l.length:=by
    rw[zf] at hv;have:=(dW.1 hv).1;omega
   obtain⟨w,hw⟩:∃w,l[k]?=some w:=⟨l[k],by simp[hk]⟩
   have hm:w∈l:=oH hw;have:=Ug hf;obtain⟨a,b,v',g1,g2,g3,g4,_⟩:=(h3.frame (bs':=bs') λi c d=>hf i (by omega)).at_ hw
   rw[hv] at g1;cases g1;have hF:=Ep hm;refine⟨tP w bg,Uh hg N g2 (hr.1.mem hm) (by omega) (by omega) (by omega) bg [],tv w _ (hr.1.mem hm),?_⟩
   rw[BV,BV,G1,hw]
   simp)
  rw[hlen] at key;simp only[tP];rw[G2] at key;exact key
 | N+1,.rep w lp nl,bs,lo,hi,v,h,hr,hh,hN,n,hn,bg,es=>by
  simp only[FW] at hn hN;obtain⟨n,rfl⟩:∃k,n=k+2:=⟨n - 2,by omega⟩
  obtain⟨p,m1,vw,h1,h2,h3,rfl,h6⟩:=h;obtain⟨t,u,rfl⟩:=h1.bf;have l1:=h1.le;have f1:∀bs',(∀i,i<bs.length->nth bs' i=nth bs i)->At bs' w lo m1 (.bf t u):=λbs' hf=>h1.frame λi a b=>hf i (by omega)
  refine qT (zr9 p) func289 rfl rfl ?_;simp only[tP];refine ztp hg (n:=n+1) (sec:=bg || lp && m5 w) h6 (λbs' hf=>?_) (λbs' hf=>?_)
  ·exact zr1 hg ((hf p (by omega)).trans h6) rfl (Uf hg (f1 bs' hf) (by omega) [])
  ·have:=Ug hf;exact Uh hg N (f1 bs' hf) hr (by omega) (by omega) (by omega) _ []
end
section
variable{gl:Gl}
def zsa(w:Wd)(bg:Bool)(c:Nat):gJ (fu w bg c).1=gJ w:=by cases w<;>simp only[fu,gJ]
def LQ(l:List Wd)(bg:Bool)(c k:Nat):List Wd:=(l.take k).map (λw=>(fu w bg c).1)++l.drop k
def zpt{l:List Wd}{bg:Bool}{c k:Nat}{w:Wd}(h:l[k]?=some w):(LQ l bg c k)[k]?=some w:=by
 have hk:=(dW.1 h).1;unfold LQ;rw[nN (by simp;omega),HN]
 simp only[oO,tR];rw[show k+(k - min k l.length)=k by omega,h]
def zpu{l:List Wd}{bg:Bool}{c k:Nat}{w:Wd}(h:l[k]?=some w):(LQ l bg c k).set k (fu w bg c).1=LQ l bg c (k+1):=by
 have hk:=(dW.1 h).1;unfold LQ;rw[List.set_append_right _ _ (by simp;omega)]
 simp only[oO,tR];rw[show k - min k l.length=0 by omega,J6 hk,cM,G1,h]
 simp
def Rc(hg:GW gl):∀(N:Nat){w:Wd}{bs:List aN}{lo hi:Nat}{v:V},At bs w lo hi v->Ap w->hi<=bs.length->FW w<=N->∀{n:Nat},FW w<=n->∀(bg:Bool)(c:Nat),c<256->∀(es:aC),
  ∃bs',kg gl n Ji v [.bool bg,.int .u8 (c:Nat)] ⟨bs,es⟩=some (.val (.bool (fu w bg c).2),⟨bs',es⟩)/\At bs' (fu w bg c).1 lo hi v/\bs'.length=bs.length/\∀i,¬(lo<=i/\i<hi)->nth bs' i=nth bs i
 | 0,w,bs,lo,hi,v,h,hr,hh,hN,n,hn,bg,c,hc,es=>by have:=Ph w;omega
 | N+1,.mZ,bs,lo,hi,v,h,hr,hh,hN,n,hn,bg,c,hc,es=>by
  obtain⟨n,rfl⟩:∃k,n=k+1:=⟨n - 1,by simp only[FW] at hn;omega⟩
  obtain⟨h1,rfl⟩:=h;refine⟨bs,?_,?_,rfl,λ_ _=>rfl⟩
  ·simp only[fu];exact qT M8 func277 rfl rfl (zti hg)
  ·simp only[fu];exact⟨h1,rfl⟩
 | N+1,.one s m,bs,lo,hi,v,h,hr,hh,hN,n,hn,bg,c,hc,es=>by
  obtain⟨n,rfl⟩:∃k,n=k+2:=⟨n - 2,by simp only[FW] at hn;omega⟩
  obtain⟨p,h1,h2,rfl,h4⟩:=h;have bu:p<bs.length:=kQ (H:=⟨bs,[]⟩) h4;simp only[fu];exact⟨_,qT (zqe p) func273 rfl rfl (ztj hg hr hc h4),⟨p,h1,h2,rfl,qw bu⟩,by simp,λi hi=>z8 (by omega)⟩
 | N+1,.both a b nl la,bs,lo,hi,v,h,hr,hh,hN,n,hn,bg,c,hc,es=>by
  simp only[FW] at hn hN;obtain⟨n,rfl⟩:∃k,n=k+2:=⟨n - 2,by omega⟩
  obtain⟨p,m1,m2,va,vb,h1,h2,h3,h4,rfl,h6⟩:=h;obtain⟨t,u,rfl⟩:=h2.bf;obtain⟨t',u',rfl⟩:=h1.bf;have l1:=h1.le;have l2:=h2.le;have bu:p<bs.length:=kQ (H:=⟨bs,[]⟩) h6;obtain⟨iU,a1,a2,a3,a4⟩:=Rc hg N h2 hr.1 (by omega) (by omega) (n:=n+1) (by omega) bg c hc []
  have H9:At iU b lo m1 (.bf t' u'):=h1.frame λi x y=>a4 i (by omega)
  obtain⟨j_,b1,b2,b3,b4⟩:=Rc hg N H9 hr.2 (by omega) (by omega) (n:=n+1) (by omega) (bg && gJ a || m5 a) c hc []
  have ee:=M9 hg b2 (n:=n+1) (by omega) []
  rw[zsa] at ee;have Du:nth iU p=nth bs p:=a4 p (by omega)
  have Ua:nth j_ p=nth bs p:=(b4 p (by omega)).trans Du
  have key:=ztn hg (es:=es) (c:=(c:Int)) h6 rfl rfl (zr0 hg h6 rfl (M9 hg h2 (by have:=Ph a;omega) []) (Uf hg h2 (by omega) [])) a1 Du b1 Ua ee (b3.trans a3)
  simp only[fu];refine⟨_,qT (zqg p) func281 rfl rfl key,⟨p,m1,m2,.bf t u,.bf t' u',b2.frame λi x y=>z8 (by omega),?_,h3,h4,rfl,qw (by omega)⟩,by simp;omega,λi hi=>?_⟩
  ·exact a2.frame λi x y=>(z8 (by omega)).trans (b4 i (by omega))
  ·rw[z8 (by omega),b4 i (by omega),a4 i (by omega)]
 | N+1,.alt l nl la,bs,lo,hi,v,h,hr,hh,hN,n,hn,bg,c,hc,es=>by
  simp only[FW] at hn hN;obtain⟨n,rfl⟩:∃k,n=k+2:=⟨n - 2,by omega⟩
  obtain⟨p,m1,vs,o,h1,h2,h3,rfl,h6⟩:=h;have hlen:=h3.len;have l1:=h3.le;have bu:p<bs.length:=kQ (H:=⟨bs,[]⟩) h6;have key:=ztr hg (es:=es) (n:=n+1) (bg:=bg) (c:=(c:Int)) h6 h3.bf (λk=>(l.take k).any λw=>(fu w bg c).2)
   (λk bs'=>uT bs' (LQ l bg c k) m1 hi vs/\∀i,¬(lo<=i/\i<hi)->nth bs' i=nth bs i) (by simp)
   (λk bs' x hJ=>⟨hJ.1.frame λi a b=>z8 (by omega),λi hi=>(z8 (by omega)).trans (hJ.2 i hi)⟩)
   ⟨by simpa[LQ] using h3,λ_ _=>rfl⟩ (by omega) (by have:=hr.2;omega) (λk bs' v hv hJ lU Rb=>by
    have hk:k<l.length:=by
     rw[zf] at hv;have:=(dW.1 hv).1;omega
    obtain⟨w,hw⟩:∃w,l[k]?=some w:=⟨l[k],by simp[hk]⟩
    have hm:w∈l:=oH hw;have hF:=Ep hm;obtain⟨x,y,v',g1,g2,g3,g4,g5⟩:=hJ.1.at_ (zpt hw);rw[hv] at g1;cases g1;obtain⟨iU,c1,c2,c3,c4⟩:=Rc hg N g2 (hr.1.mem hm) (by omega) (by omega) (n:=n+1) (by omega) bg c hc []
    refine⟨iU,_,c1,c4 p (by omega),c3,⟨?_,λi hi=>(c4 i (by omega)).trans (hJ.2 i hi)⟩,?_⟩
    ·have:=g5 iU _ c2 c4
     rwa [zpu hw] at this
    ·rw[G1,hw];simp)
  obtain⟨bs',k1,k2,k3,k4⟩:=key;rw[hlen] at k1 k2 k4;rw[G2] at k1 k4;have e1:LQ l bg c l.length=l.map λw=>(fu w bg c).1:=by simp[LQ]
  rw[e1] at k2;simp only[fu,uU,Jk];exact⟨bs',qT (zqi p) func286 rfl rfl k1,⟨p,m1,vs,o,h1,h2,k2.1,rfl,k4⟩,k3,k2.2⟩
 | N+1,.rep w lp nl,bs,lo,hi,v,h,hr,hh,hN,n,hn,bg,c,hc,es=>by
  simp only[FW] at hn hN;obtain⟨n,rfl⟩:∃k,n=k+2:=⟨n - 2,by omega⟩
  obtain⟨p,m1,vw,h1,h2,h3,rfl,h6⟩:=h;obtain⟨t,u,rfl⟩:=h1.bf;have l1:=h1.le;obtain⟨iU,a1,a2,a3,a4⟩:=Rc hg N h1 hr (by omega) (by omega) (n:=n+1) (by omega) (bg || lp && m5 w) c hc []
  have Du:nth iU p=nth bs p:=a4 p (by omega)
  simp only[fu];exact⟨iU,qT (zqk p) func290 rfl rfl (zto hg h6 (zr1 hg h6 rfl (Uf hg h1 (by omega) [])) a1 Du a3),⟨p,m1,.bf t u,a2,h2,h3,rfl,Du.trans h6⟩,a3,λi hi=>a4 i (by omega)⟩
end
section
variable{gl:Gl}
def c1:Code->Code|.seq a _=>a|.cond _ a _=>a|.block _ c=>c|.loop c=>c|.rangeFunc _ _ a _=>a|c=>c
def c2:Code->Code|.seq _ b=>b|.cond _ _ b=>b|.rangeFunc _ _ _ b=>b|c=>c
noncomputable def Hy:Code:=f45.body.getD .skip
noncomputable def Es:Code:=c1 (c2 (c1 (c2 Hy)))
noncomputable def Et:Code:=c2 (c2 Hy)
def Hz(P:aD)(rs:List ResultVar)(og:V->Hp->Prop):Ex->St->Prop
 | .normal,⟨env,H,_,df⟩|.ret,⟨env,H,_,df⟩=>ef df=[]/\∃vs,zG P H env rs=some vs/\og (fN vs) H
 | _,_=>False
def zl6{P:aD}{gl:Gl}{n:Nat}{f:FuncId}{fn:Func}{body:Code}{args:aj}{bs:List aN}{es:aC}{og:V->Hp->Prop}(hk:gl.hk f args=none)(fB:∀H,gl.fB n f args H=none)(hf:P.funcs[f]?=some fn)(hb:fn.body=some body)
  (h:go ⟨P,gl,zl P gl n,gl.uq⟩ n (Hz P fn.results.toList og) [.c body] .normal ⟨args++List.replicate (fn.ntmps - args.length) (.bx []),⟨bs,[]⟩,[],[]⟩):∃v H1,zl P gl (n+1) f args ⟨bs,es⟩=some (.ret v,ql bs.length es v.top H1)/\og v H1:=by
 obtain⟨ex,⟨env,H,lk,df⟩,h1,h2⟩:=yL h;have key:AO ex=some none->ef df=[]->∀vs,zG P H env fn.results.toList=some vs->zl P gl (n+1) f args ⟨bs,es⟩=some (.ret (fN vs),ql bs.length es (fN vs).top H):=by
  intro he hd vs hr;simp only[zl,hk,fB,hf,hb,qh,dN,h1,he,xq,hd,wj,hr,zQ,kI]
 cases ex<;>simp only[Hz] at h2
 ·obtain⟨h2,vs,h3,h4⟩:=h2;exact⟨_,H,key rfl h2 vs h3,h4⟩
 ·obtain⟨h2,vs,h3,h4⟩:=h2;exact⟨_,H,key rfl h2 vs h3,h4⟩
def aE:E->aj
 | .mk op pl s0 s1 s2 s3 text mn mx nl args=>[.int .i64 op,.int .i64 pl,.int .u64 s0,.int .u64 s1,.int .u64 s2,.int .u64 s3,.str text,.int .i64 mn,.int .i64 mx,qS nl (bl args)]
def zV(e:E):enc e=.agg (aE e):=by cases e;rfl
def qC(e:E):(aE e).length=10:=by cases e;rfl
def wx(e:E):(aE e).map aX=aE e:=by cases e;simp[aE,qg,zB,wm]
def ziN(e:E):aA (aE e)=0:=by have:=cL e;rwa [zV] at this
section
variable{cx:Cx}{takes:bA}{dst:eC}{type:ai}{pos:String}{after:Array Edge}{guard:i_}{env:aj}{H:Hp}{lk:aC}{df:aV}
def LR{P:aD}{g:Nat->Nat->bS}{c:FuncId->aj->Hp->Option (Out×Hp)}{u:ai->Bool}{t:ai}{x:aH}(ht:yq P t=false):Cx.op ⟨P,g,c,u⟩ takes ⟨dst,.makeInterface t x,type,pos,after,guard⟩ env H lk df=fU env H lk df ((aq env x).map (.bf t)):=by
 simp only[Cx.op];refine wT ?_;simp only[qi,ht,Option.bind_eq_bind,bH,aZ];cases aq env x<;>rfl
end
def Jl:yq prog 127=false:=by kernel_rfl
def Ui:yq prog 123=false:=by kernel_rfl
def M_:yq prog 131=false:=by kernel_rfl
def Uj:yq prog 134=false:=by kernel_rfl
def Na:yq prog 138=false:=by kernel_rfl
def zjK{env:aj}:ki prog 127 #[] env=some (.agg []):=by kernel_rfl
def Rf:jI prog 3=some false:=by kernel_rfl
def LS:jI prog 25=some false:=by kernel_rfl
def Jm:jI prog 27=some true:=by kernel_rfl
def C7:z9 prog 27=some 10:=by kernel_rfl
def Jn:qA prog 27 0=some 0:=by kernel_rfl
def BW:qA prog 27 2=some 2:=by kernel_rfl
def Eu:qA prog 27 4=some 7:=by kernel_rfl
def Jo:qA prog 27 5=some 8:=by kernel_rfl
def pq:qA prog 27 6=some 9:=by kernel_rfl
def z93:qO prog 93=some .bq:=by kernel_rfl
def zql{env:aj}{H:Hp}{lk:aC}{df:aV}:OY 93 env H lk df (qO prog 93)=some (.val (.ptr H.af.length 0),⟨env,H.push (.cells [.bq] 93),lk,df⟩):=by
 rw[z93,wI rfl];rfl
def Xt{H:Hp}{b:Nat}{v x:V}{env:aj}{lk:aC}{df:aV}(h:H.get b=some (.cells [x] 93))(hx:locked x=false)(h1:eF v=true)(h2:v.laid=[v]):qV prog 93 H lk df (some (v,env)) (some (.ptr b 0))=some (.skip,⟨env,(H.set b (.cells [v] 93)).bQ b v,lk,df⟩):=by
 rw[jn T9 h h1 (by rw[h2];rfl) (show 0+1<=1 by decide) (w9 (cs:=[x]) (by simp[hx]) (show 0+1<=1 by decide))]
 rw[h2];rfl
def B1(e:E)(bs:List aN):List aN:=bs++[.cells (aE e) 27,.cells [.bq] 93]
def Uk(hg:GW gl){n:Nat}{e:E}{op:Int}{bs:List aN}{es:aC}{og:V->Hp->Prop}(az:nth (aE e) 0=some (.int .i64 op))
  (h:∀env,env.length=125->nth env 1=some (.ptr bs.length 0)->nth env 2=some (.ptr (bs.length+1) 0)->nth env 13=some (.int .i64 op)->go ⟨prog,gl.g,zl prog gl n,uR⟩ n (Hz prog [.cell 2 93] og) [.c Es,.eb 0,.c Et] .normal ⟨env,⟨B1 e bs,[]⟩,[],[]⟩) :
  ∃v H1,zl prog gl (n+1) 45 [enc e] ⟨bs,es⟩=some (.ret v,ql bs.length es v.top H1)/\og v H1:=by
 refine zl6 (hg.hk _ _ (by decide)) (λH=>hg.fB _ _ _ _) func45 (show f45.body=some Hy from rfl) ?_
 rw[hg.uq];have lz:zA prog ⟨B1 e bs,[]⟩ gl.g 3 (.ptr bs.length 0)=some (.int .i64 op):=zM (H:=⟨B1 e bs,[]⟩) Rf Uc az;have e1:Hy=.seq (c1 Hy) (.seq (.seq (c1 (c1 (c2 Hy))) (.block 0 Es)) Et):=by kernel_rfl
 rw[e1];simp only[zc];simp only[c1,c2,Hy,f45,tS,fY,List.length_nil];rw[zV];have abM:([V.agg (aE e)]++List.replicate (125 - (0+1)) (V.bx []):aj)=V.agg (aE e)::.bx []::.bx []::List.replicate 122 (V.bx []):=rfl;rw[abM];refine ze ?_
 simp only[zt,ah,zc,wb,jf,zh,qt,au,aI,qc,oI,fY,List.length_nil,eM,nI,iQ,gF,zb,cM,cN,qQ (show eF (.agg (aE e))=true from rfl),V.laid,wx,zql]
 refine ze ?_;have hB:bs++[aN.cells (aE e) 27,aN.cells [V.bq] 93]=B1 e bs:=rfl;rw[hB];have hn9:∀x:V,nth ((List.replicate 122 (V.bx [])).set 9 x) 9=some x:=λx=>rfl;simp only[zt,ah,zU,zw,zj,aq,zd,au,aI,zB,zu,cG,cA,zq,a_,rP,zb,zg,cN,Jn,hn9,lz]
 refine h _ ?_ ?_ ?_ ?_
 ·simp[]
 ·rfl
 ·rfl
 ·rfl
end
section
variable{gl:Gl}
mutual
def h_:E->Option Wd
 | .mk op _ s0 s1 s2 s3 _ mn mx _ args =>
  if op=2 then (if (s0,s1,s2,s3)=c_ then none else some (.one (s0,s1,s2,s3) false))
  else if op=5 then fI args
  else if op=6 then (if (cQ args).isEmpty then none else some (.alt (cQ args) ((cQ args).any gJ) false))
  else if op=7 then (match mz args with
   | some x=>some (.rep x (decide (mx<0)) (mn == 0 || gJ x))
   | none=>if 0<mn then none else some .mZ)
  else some .mZ
def fI:List E->Option Wd
 | []=>some .mZ
 | e::l=>match fI l,h_ e with
  | some w,some x=>some (.both x w (gJ x && gJ w) false)
  | _,_=>none
def cQ:List E->List Wd
 | []=>[]
 | e::l=>match h_ e with
  | some x=>x::cQ l
  | none=>cQ l
def mz:List E->Option Wd
 | []=>none
 | e::_=>h_ e
end
def Pj(bs:List aN)(lo:Nat):Option Wd->V->Prop
 | none,v=>v=.bq
 | some w,v=>∃hi,hi<=bs.length/\At bs w lo hi v
def dS(bs bs':List aN):Prop:=∃l,bs'=bs++l/\∀x∈l,x.isCells=true
def zq8(bs:List aN)(r:Option Wd)(v:V)(H:Hp):Prop:=dS bs H.af/\(∀p∈H.aS,bs.length<=p.1)/\Pj H.af bs.length r v
def yN(gl:Gl)(n:Nat)(e:E)(bs:List aN)(es:aC):Prop :=
 ∃v bs' fJ,zl prog gl n 45 [enc e] ⟨bs,es⟩=some (.ret v,⟨bs',fJ++es⟩)/\dS bs bs'/\(∀p∈fJ,bs.length<=p.1)/\Pj bs' bs.length (h_ e) v
def dS.refl(bs:List aN):dS bs bs:=⟨[],by simp,by simp⟩
def dS.trans{a b c:List aN}(h:dS a b)(k:dS b c):dS a c:=by
 obtain⟨l,rfl,h1⟩:=h;obtain⟨m,rfl,h2⟩:=k;refine⟨l++m,by simp,λx hx=>?_⟩
 rcases rO.1 hx with hx|hx
 ·exact h1 x hx
 ·exact h2 x hx
def dS.nth{a b:List aN}(h:dS a b){i:Nat}(hi:i<a.length):nth b i=nth a i:=by
 obtain⟨l,rfl,_⟩:=h;exact kV (es:=[]) (ls:=l) hi
def dS.len{a b:List aN}(h:dS a b):a.length<=b.length:=by
 obtain⟨l,rfl,_⟩:=h;simp
def dS.push{a b:List aN}(h:dS a b){cs:aj}{t:ai}:dS a (b++[.cells cs t]):=h.trans ⟨[_],rfl,by simp[aN.isCells]⟩
def dS.set{a b:List aN}(h:dS a b){i:Nat}{cs:aj}{t:ai}(hi:a.length<=i):dS a (b.set i (.cells cs t)):=by
 obtain⟨l,rfl,h1⟩:=h;refine⟨l.set (i - a.length) (.cells cs t),by rw[List.set_append_right _ _ hi],λx hx=>?_⟩
 rcases List.mem_or_eq_of_mem_set hx with hx|rfl
 ·exact h1 x hx
 ·rfl
def Ul{n:Nat}{e:E}{bs:List aN}{es:aC}(h:∃v H1,zl prog gl n 45 [enc e] ⟨bs,es⟩=some (.ret v,ql bs.length es v.top H1)/\zq8 bs (h_ e) v H1):yN gl n e bs es:=by
 obtain⟨v,⟨b1,e1⟩,h1,h2,h3,h4⟩:=h
 by_cases hc:(Nat.ble v.top bs.length && e1.all (λe=>Nat.ble bs.length e.1 || Nat.ble e.2 bs.length))=true
 ·refine⟨v,bs,[],?_,.refl _,by simp,?_⟩
  ·rw[h1];obtain⟨l,hl,_⟩:=h2;simp only at hl;subst hl;have hf:e1.filter (λe=>Nat.blt e.1 bs.length)=[]:=by
    rw[List.filter_eq_nil_iff];intro p hp hb;have:=h3 p hp;have:=pO hb;omega
   simp only[ql,if_pos hc,hf,List.take_left]
  ·have ht:v.top<=bs.length:=by
    simp only[bN] at hc;exact pO hc.1
   revert h4;cases h_ e with
   | none=>exact λh=>h
   | some w =>
    rintro⟨hi,k1,k2⟩;cases w with
    | mZ=>exact⟨bs.length,bV _,bV _,k2.2⟩
    | one s m=>obtain⟨p,g1,g2,rfl,g4⟩:=k2;simp only[V.top] at ht;omega
    | both a b nl la=>obtain⟨p,m1,m2,va,vb,g1,g2,g3,g4,rfl,g6⟩:=k2;have:=g1.le;have:=g2.le;simp only[V.top] at ht;omega
    | alt l nl la=>obtain⟨p,m1,vs,o,g1,g2,g3,rfl,g6⟩:=k2;simp only[V.top] at ht;omega
    | rep w lp nl=>obtain⟨p,m1,vw,g1,g2,g3,rfl,g6⟩:=k2;have:=g1.le;simp only[V.top] at ht;omega
 ·refine⟨v,b1,e1,?_,h2,h3,h4⟩;rw[h1];simp only[ql,if_neg hc]
def Pk{H:Hp}{v:V}{env:aj}{t b:Nat}(h:nth env t=some (.ptr b 0))(hb:H.get b=some (.cells [v] 93)):zG prog H env [.cell t 93]=some [aX v]:=by
 simp only[zG,h,zM mU hb (show nth [v] 0=some v from rfl)]
def Pm(e:E)(bs:List aN):(B1 e bs).length=bs.length+2:=by simp[B1]
def xp(e:E)(bs:List aN):dS bs (B1 e bs):=⟨_,rfl,by simp[aN.isCells]⟩
def Rh(e:E)(bs:List aN):nth (B1 e bs) bs.length=some (.cells (aE e) 27):=Uc (es:=[])
def Nb(e:E)(bs:List aN):nth (B1 e bs) (bs.length+1)=some (.cells [.bq] 93):=Ub (es:=[])
def ztt{x y:aH}{a b c d:Int}:j6 prog .eql 24 x y (some (bI (a,b,c,d))) (some (bI c_))=some (.bool (decide ((a,b,c,d)=c_))):=by
 have hg:jK prog .eql 24 x y (bI (a,b,c,d)) (bI c_)=true:=by kernel_rfl
 simp only[j6,hg,aT];have hb:vn prog .eql 24 (bI (a,b,c,d)) (bI c_)=(ov prog 100 24 (bI (a,b,c,d)) (bI c_)).map .bool:=rfl;obtain⟨e,he,fR,nD,hu⟩:∃e,prog.underlying 24=some (.array 4 e)/\z9 prog e=some 1/\jI prog e=some false/\prog.underlying e=some (.int .u64):=⟨_,underlying24,by kernel_rfl,by kernel_rfl,by kernel_rfl⟩
 have hi:∀m n:Int,ov prog 99 e (.int .u64 m) (.int .u64 n)=some (m == n):=λm n=>by simp[ov,hu,Ch]
 have he:ov prog 100 24 (bI (a,b,c,d)) (bI c_)=some (decide ((a,b,c,d)=c_)):=by
  have:ov prog 100 24 (bI (a,b,c,d)) (bI c_)=J_ prog (ov prog 99) e 1 [.int .u64 a,.int .u64 b,.int .u64 c,.int .u64 d] [.int .u64 0,.int .u64 0,.int .u64 0,.int .u64 0] 0 4:=by
   simp only[ov,he,bI,fR,c_]
  rw[this];simp only[J_,kL,nD,V5,ND,eM,hi,Option.bind_eq_bind,cG,Nat.reduceAdd,nth]
  by_cases h1:a=0
  ·by_cases h2:b=0
   ·by_cases h3:c=0
    ·by_cases h4:d=0
     ·simp[h1,h2,h3,h4,c_]
     ·simp[h1,h2,h3,h4,c_]
    ·simp[h1,h2,h3,c_]
   ·simp[h1,h2,c_]
  ·simp[h1,c_]
 rw[hb,he];rfl
def zpv(hg:GW gl){n:Nat}{e:E}{op:Int}{bs:List aN}{es:aC}(az:nth (aE e) 0=some (.int .i64 op))(h2:op≠2)(h5:op≠5)(h6:op≠6)(h7:op≠7)(hf:h_ e=some .mZ):yN gl (n+1) e bs es:=by
 refine Ul (Uk hg az λenv aW e1 e2 Aq=>?_);have x2:(op == 2)=false:=beq_false_of_ne h2;have x5:(op == 5)=false:=beq_false_of_ne h5;have x6:(op == 6)=false:=beq_false_of_ne h6;have x7:(op == 7)=false:=beq_false_of_ne h7;simp only[Es,Et,Hy,f45,tS,c1,c2,zc];refine ze ?_
 simp only[zt,ah,zc,zE,zi,Nat.reduceEqDiff,aq,zh,aF,zv,zd,zn,au,aI,zB,zp,fK,zP,zY,aT,za,cI,Nat.reduceLT,aT,aZ,Aq,aW,qE,x2,bH,pJ,Cg]
 refine ze ?_;simp only[zt,ah,zc,zE,zi,Nat.reduceEqDiff,aq,zh,aF,zv,zd,zn,au,aI,zB,zp,fK,zP,zY,aT,za,cI,Nat.reduceLT,aT,aZ,Aq,aW,qE,x5,bH,pJ,Cg]
 refine ze ?_;simp only[zt,ah,zc,zE,zi,Nat.reduceEqDiff,aq,zh,aF,zv,zd,zn,au,aI,zB,zp,fK,zP,zY,aT,za,cI,Nat.reduceLT,aT,aZ,Aq,aW,qE,x6,bH,pJ,Cg]
 refine ze ?_;simp only[zt,ah,zc,bC,wh,zE,zi,Nat.reduceEqDiff,aq,zh,aF,zv,zd,zn,au,aI,zB,zp,fK,zP,zY,aT,za,cI,Nat.reduceLT,aT,aZ,Aq,aW,qE,x7,bH,pJ,Cg]
 refine ze ?_;have b8:∀env:aj,qV prog 93 ⟨B1 e bs,[]⟩ [] [] (some (.bf 127 (.agg []),env)) (some (.ptr (bs.length+1) 0))=some (.skip,⟨env,⟨(B1 e bs).set (bs.length+1) (.cells [.bf 127 (.agg [])] 93),[]⟩,[],[]⟩):=λenv=>by
  rw[Xt (H:=⟨B1 e bs,[]⟩) (Nb e bs) rfl rfl rfl,qR rfl];rfl
 have hlen:bs.length+1<(B1 e bs).length:=by rw[Pm];omega
 simp only[zt,ah,zC,jd,Nat.reduceEqDiff,aq,zh,zd,au,bK,aI,vF,zu,cA,aT,za,cI,Nat.reduceLT,aT,aZ,e2,aW,zjK,LR Jl,qu,b8]
 simp only[go_ret,zo,Hz]
 refine⟨rfl,[.bf 127 (.agg [])],?_,?_,λp hp=>(by cases hp),?_⟩
 ·refine Pk (v:=.bf 127 (.agg [])) (b:=bs.length+1) (by simp[za,e2]) ?_
  exact qw hlen
 ·exact(xp e bs).set (by omega)
 ·rw[hf];exact⟨bs.length+2,by simp only[cI,Pm];omega,by omega,rfl⟩
def Pn:bS->bS
 | some v=>if eF v=true/\v.cells.length=4 then some (.agg (Vm.storeCells [.int .u64 0,.int .u64 0,.int .u64 0,.int .u64 0,.bool false] 0 v.cells)) else none
 | none=>none
def zq9{env:aj}{x:aH}:ki prog 125 #[(0,x)] env=Pn (aq env x):=by
 have e0:ki prog 125 #[(0,x)] env=(vN [.int .u64 0,.int .u64 0,.int .u64 0,.int .u64 0,.bool false] (nth [(0,4),(4,1)]) env [(0,x)]).map .agg:=by kernel_rfl
 rw[e0];simp only[vN,Option.bind_eq_bind,zb];cases aq env x with
 | none=>rfl
 | some v =>
  simp only[cG,Pn,bN,G5,eM]
  by_cases h1:eF v=true<;>by_cases h2:v.cells.length=4<;>simp[h1,h2]
def zpw{s:fS}:Pn (some (bI s))=some (.agg (yj s false)):=rfl
def tM(b:Nat)(v:V)(es:aC):aC:=if v.top<=b+1 then es else (b,v.top)::es
def zkV{bs:List aN}{es:aC}{b:Nat}{v:V}:Hp.bQ ⟨bs,es⟩ b v=⟨bs,tM b v es⟩:=by
 simp only[Hp.bQ,tM];split<;>rfl
def y8{m b:Nat}{v:V}{es:aC}(h:∀p∈es,m<=p.1)(hb:m<=b):∀p∈tM b v es,m<=p.1:=by
 intro p hp;unfold tM at hp;split at hp
 ·exact h p hp
 ·rcases cS.1 hp with rfl|hp
  ·exact hb
  ·exact h p hp
def LV{bs:List aN}{es:aC}{b:Nat}{v x:V}{env:aj}{lk:aC}{df:aV}(h:nth bs b=some (.cells [x] 93))(hx:locked x=false)(h1:eF v=true)(h2:v.laid=[v]):qV prog 93 ⟨bs,es⟩ lk df (some (v,env)) (some (.ptr b 0))=some (.skip,⟨env,⟨bs.set b (.cells [v] 93),tM b v es⟩,lk,df⟩):=by
 rw[Xt (H:=⟨bs,es⟩) h hx h1 h2,Hp.set,zkV]
def Xu{H1:Hp}{env:aj}{lk:aC}{df:aV}{bs:List aN}{r:Option Wd}(e2:nth env 2=some (.ptr (bs.length+1) 0))(hd:ef df=[])(hc:H1.get (bs.length+1)=some (.cells [.bq] 93))(hn:dS bs H1.af)(he:∀p∈H1.aS,bs.length<=p.1)(hr:r=none):Hz prog [.cell 2 93] (zq8 bs r) .ret ⟨env,H1,lk,df⟩:=by
 simp only[Hz];exact⟨hd,[.bq],Pk (b:=bs.length+1) e2 hc,hn,he,by rw[hr];exact rfl⟩
def zra(hg:GW gl){n:Nat}{pl s0 s1 s2 s3 mn mx:Int}{tx:aR}{nl:Bool}{args:List E}{bs:List aN}{es:aC}:yN gl (n+1) (.mk 2 pl s0 s1 s2 s3 tx mn mx nl args) bs es:=by
 refine Ul (Uk hg (op:=2) rfl λenv aW e1 e2 Aq=>?_);generalize hE:E.mk 2 pl s0 s1 s2 s3 tx mn mx nl args=e;have Hs:aE e=[.int .i64 2,.int .i64 pl,.int .u64 s0,.int .u64 s1,.int .u64 s2,.int .u64 s3,.str tx,.int .i64 mn,.int .i64 mx,qS nl (bl args)]:=by rw[<- hE];rfl
 have AF:h_ e=if (s0,s1,s2,s3)=c_ then none else some (.one (s0,s1,s2,s3) false):=by rw[<- hE];simp only[h_,aT]
 have lz:zA prog ⟨B1 e bs,[]⟩ gl.g 24 (.ptr bs.length 2)=some (bI (s0,s1,s2,s3)):=by
  rw[vd (H:=⟨B1 e bs,[]⟩) C5 C6 (Rh e bs) (by rw[qC];decide),Hs]
  rfl
 simp only[Es,Et,Hy,f45,tS,c1,c2,zc];refine ze ?_;simp only[zt,ah,zc,zE,zi,Nat.reduceEqDiff,aq,zh,aF,zv,zd,zn,au,aI,zB,zp,fK,zP,zY,aT,za,cI,Nat.reduceLT,aT,aZ,Aq,aW,qE,beq_self_eq_true,fK,Cz,pJ,E1]
 refine ze ?_;simp only[zt,ah,zc,bC,zw,zE,jd,zj,Nat.reduceEqDiff,aq,zd,au,aI,zp,zu,cG,cA,zq,a_,eM,zP,zY,aT,za,cI,Nat.reduceLT,aT,aZ,e1,aW,BW,lz,ww,Ra,ztt]
 by_cases h0:(s0,s1,s2,s3)=c_
 ·refine .inl ⟨decide_eq_true h0,?_⟩;rw[if_pos h0] at AF;refine ze ?_;have b8:∀env:aj,qV prog 93 ⟨B1 e bs,[]⟩ [] [] (some (.bq,env)) (some (.ptr (bs.length+1) 0))=some (.skip,⟨env,⟨(B1 e bs).set (bs.length+1) (.cells [.bq] 93),[]⟩,[],[]⟩):=λenv=>by
   rw[Xt (H:=⟨B1 e bs,[]⟩) (Nb e bs) rfl rfl rfl,qR rfl];rfl
  simp only[zt,ah,zC,Nat.reduceEqDiff,aq,zH,aF,bK,aI,zu,cA,aT,za,cI,Nat.reduceLT,aT,aZ,e2,aW,b8]
  simp only[go_ret,zo,je,ky]
  exact Xu (by simp[za,e2]) rfl (qw (by rw[Pm];omega)) ((xp e bs).set (by omega)) (λp hp=>(by cases hp)) AF
 ·refine .inr ⟨decide_eq_false h0,?_⟩;rw[if_neg h0] at AF;have hl:(B1 e bs).length=bs.length+2:=Pm e bs;have rR:nth (B1 e bs++[aN.cells (yj (s0,s1,s2,s3) false) 125]) (bs.length+1)=some (.cells [.bq] 93):=(kV (es:=[]) (by omega)).trans (Nb e bs)
  have b8:∀(env:aj),qV prog 93 ⟨B1 e bs++[aN.cells (yj (s0,s1,s2,s3) false) 125],[]⟩ [] [] (some (.bf 123 (.ptr (bs.length+2) 0),env)) (some (.ptr (bs.length+1) 0))=_:=λenv=>LV rR rfl rfl rfl;have Fy:(V.agg (yj (s0,s1,s2,s3) false)).laid=yj (s0,s1,s2,s3) false:=rfl;refine ze ?_
  simp only[zt,ah,zw,wb,zC,jd,zj,Nat.reduceEqDiff,aq,zh,qt,zd,au,bK,aI,zu,cG,cA,zq,a_,qc,eM,aT,za,cI,Nat.reduceLT,aT,aZ,e1,e2,aW,hl,BW,lz,ww,zq9,zpw,qQ (show eF (.agg (yj (s0,s1,s2,s3) false))=true from rfl),Fy,LR Ui,qu,qt,b8]
  simp only[go_ret,zo,je,ky,Hz]
  have hN:dS bs (B1 e bs++[aN.cells (yj (s0,s1,s2,s3) false) 125]):=(xp e bs).push;refine⟨rfl,[.bf 123 (.ptr (bs.length+2) 0)],?_,hN.set (by omega),y8 (by simp) (by omega),?_⟩
  ·refine Pk (v:=.bf 123 (.ptr (bs.length+2) 0)) (b:=bs.length+1) (by simp[za,e2]) ?_
   exact qw (by simp[hl])
  ·rw[AF];refine⟨bs.length+3,by simp[hl],bs.length+2,by omega,by omega,rfl,?_⟩
   rw[z8 (by omega)]
   have:=Vm.lq (bs:=B1 e bs) (ls:=[aN.cells (yj (s0,s1,s2,s3) false) 125]) (es:=[]);rw[hl] at this;exact this
end
section
variable{gl:Gl}
def zkW{x:aH}{t:Nat}{u:V}:j6 prog .neq 93 x (.const .nilIface) (some (.bf t u)) (some .bq)=some (.bool true):=by kernel_rfl
def zkX{x:aH}:j6 prog .neq 93 x (.const .nilIface) (some .bq) (some .bq)=some (.bool false):=by cases x<;>kernel_rfl
def zg6{x:aH}{t:Nat}{u:V}:j6 prog .eql 93 x (.const .nilIface) (some (.bf t u)) (some .bq)=some (.bool false):=by kernel_rfl
def zg7{x:aH}:j6 prog .eql 93 x (.const .nilIface) (some .bq) (some .bq)=some (.bool true):=by cases x<;>kernel_rfl
def Xv{nl:Bool}{l:List E}{k:Nat}{a:E}(h:l[k]?=some a):zO prog 25 (qS nl (bl l)) (k:Int)=some (.vp (aE a)):=by
 have hk:¬((k:Int)<0):=by omega
 have hn:nth (bl l) k=some (enc a):=kS h;have:qS nl (bl l)=.sl 10 (bl l) .no:=by
  rcases kn nl (bl l) with h'|⟨h',_⟩
  ·exact h'
  ·rw[h'] at hn;simp[nth] at hn
 rw[this];simp[zO,C7,hk,hn,zV,V.cells]
def Xw{H:Hp}{g:Nat->Nat->bS}{a:E}:zA prog H g 27 (.vp (aE a))=some (enc a):=by
 rw[zia,kL,Jm,C7,ZV,if_pos (by rw[qC];decide),zV]
 simp only[E0];rw[Af (by rw[qC];decide)]
def C8:bS->bS->bS->bS
 | some a,some b,some c=>if (eF a=true/\a.cells.length=1)/\(eF b=true/\b.cells.length=1)/\(eF c=true/\c.cells.length=1) then some (.agg (Vm.storeCells (Vm.storeCells (Vm.storeCells [.bq,.bool false,.bool false] 0 a.cells) 1 b.cells) 2 c.cells)) else none
 | _,_,_=>none
def pz:∀(xs ys:aj)(k:Nat),(Vm.storeCells ys k xs).length=ys.length
 | [],_,_=>rfl
 | x::xs,ys,k=>by simp[Vm.storeCells,pz xs]
def znV{env:aj}{x y z:aH}:ki prog 140 #[(0,x),(1,y),(2,z)] env=C8 (aq env x) (aq env y) (aq env z):=by
 have e0:ki prog 140 #[(0,x),(1,y),(2,z)] env=(vN [.bq,.bool false,.bool false] (nth [(0,1),(1,1),(2,1)]) env [(0,x),(1,y),(2,z)]).map .agg:=by kernel_rfl
 rw[e0];simp only[vN,Option.bind_eq_bind,zb,zg];cases aq env x with
 | none=>rfl
 | some a =>
  simp only[cG,bN,G5,eM,pz]
  by_cases h1:eF a=true/\a.cells.length=1
  ·cases aq env y with
   | none=>simp[C8]
   | some b =>
    by_cases h2:eF b=true/\b.cells.length=1
    ·cases aq env z with
     | none=>simp[C8]
     | some c =>
      by_cases h3:eF c=true/\c.cells.length=1
      ·simp[C8,h1,h2,h3]
      ·simp[C8,h1,h2,h3]
    ·cases aq env z<;>simp[C8,h1,h2]
  ·cases aq env y<;>cases aq env z<;>simp[C8,h1]
def znW{t:Nat}{u:V}{a b:Bool}:C8 (some (.bf t u)) (some (.bool a)) (some (.bool b))=some (.agg (Gy (.bf t u) a b)):=rfl
def Pj.bf{bs:List aN}{lo:Nat}{w:Wd}{v:V}(h:Pj bs lo (some w) v):∃t u,v=.bf t u:=by
 obtain⟨hi,_,h⟩:=h;exact h.bf
def zrb(hg:GW gl){n:Nat}{pl s0 s1 s2 s3 mn mx:Int}{tx:aR}{nl:Bool}{a:E}{l:List E}{bs:List aN}{es:aC}(hn:1<=n)(ih:∀bs es,yN gl n a bs es):yN gl (n+1) (.mk 7 pl s0 s1 s2 s3 tx mn mx nl (a::l)) bs es:=by
 refine Ul (Uk hg (op:=7) rfl λenv aW e1 e2 Aq=>?_);generalize hE:E.mk 7 pl s0 s1 s2 s3 tx mn mx nl (a::l)=e;have Hs:aE e=[.int .i64 7,.int .i64 pl,.int .u64 s0,.int .u64 s1,.int .u64 s2,.int .u64 s3,.str tx,.int .i64 mn,.int .i64 mx,qS nl (bl (a::l))]:=by rw[<- hE];rfl
 have AF:h_ e=(match h_ a with|some x=>some (.rep x (decide (mx<0)) (mn == 0 || gJ x))|none=>if 0<mn then none else some .mZ):=by rw[<- hE];simp only[h_,mz];rfl
 have hB:(B1 e bs).length=bs.length+2:=Pm e bs;have Um:∀bs',dS (B1 e bs) bs'->∀es g,zA prog ⟨bs',es⟩ g 25 (.ptr bs.length 9)=some (qS nl (bl (a::l))):=λbs' hN es g=>zM (H:=⟨bs',es⟩) LS ((hN.nth (by omega)).trans (Rh e bs)) (by rw[Hs];rfl)
 have hl8:∀bs',dS (B1 e bs) bs'->∀es g,zA prog ⟨bs',es⟩ g 3 (.ptr bs.length 8)=some (.int .i64 mx):=λbs' hN es g=>zM (H:=⟨bs',es⟩) Rf ((hN.nth (by omega)).trans (Rh e bs)) (by rw[Hs];rfl)
 have hl7:∀bs',dS (B1 e bs) bs'->∀es g,zA prog ⟨bs',es⟩ g 3 (.ptr bs.length 7)=some (.int .i64 mn):=λbs' hN es g=>zM (H:=⟨bs',es⟩) Rf ((hN.nth (by omega)).trans (Rh e bs)) (by rw[Hs];rfl)
 have sM:zO prog 25 (qS nl (bl (a::l))) (0:Int)=some (.vp (aE a)):=Xv (k:=0) rfl;obtain⟨v,bs',fJ,Bx,hN,Bt,fG⟩:=ih (B1 e bs) [];have dQ:Cx.cX ⟨prog,gl.g,zl prog gl n,uR⟩ 45 [enc a] ⟨B1 e bs,[]⟩=some (.val v,⟨bs',fJ++[]⟩):=zR func45 rfl Bx;rw[uf] at dQ;have ah8:=hN.len
 have hed:∀v,∀p∈tM (bs.length+1) v fJ,bs.length<=p.1:=λv=>y8 (λp hp=>by have:=Bt p hp;omega) (by omega)
 have Po:∀p∈fJ,bs.length<=p.1:=λp hp=>by have:=Bt p hp;omega
 simp only[Es,Et,Hy,f45,tS,c1,c2,zc];refine ze ?_;simp only[zt,ah,zc,zE,zi,Nat.reduceEqDiff,aq,zh,aF,zv,zd,zn,au,aI,zB,zp,fK,zP,zY,aT,za,cI,Nat.reduceLT,aT,aZ,Aq,aW,qE,Int.reduceBEq,bH,pJ,Cg,fK]
 refine ze ?_;simp only[zt,ah,zc,zE,zi,Nat.reduceEqDiff,aq,zh,aF,zv,zd,zn,au,aI,zB,zp,fK,zP,zY,aT,za,cI,Nat.reduceLT,aT,aZ,Aq,aW,qE,Int.reduceBEq,bH,pJ,Cg,fK]
 refine ze ?_;simp only[zt,ah,zc,zE,zi,Nat.reduceEqDiff,aq,zh,aF,zv,zd,zn,au,aI,zB,zp,fK,zP,zY,aT,za,cI,Nat.reduceLT,aT,aZ,Aq,aW,qE,Int.reduceBEq,bH,pJ,Cg,fK]
 refine ze ?_;simp only[zt,ah,zc,bC,wh,zE,zi,Nat.reduceEqDiff,aq,zh,aF,zv,zd,zn,au,aI,zB,zp,fK,zP,zY,aT,za,cI,Nat.reduceLT,aT,aZ,Aq,aW,qE,beq_self_eq_true,Cz,pJ,fK,E1]
 refine ze ?_;simp only[zt,ah,zc,zU,zw,zi,zj,qK,jH,Nat.reduceEqDiff,bt,zQ,aq,zh,aF,zd,au,aI,zu,On,cG,cA,zq,a_,gW,qn,fH,iC,Bm,eM,aT,za,cI,Nat.reduceLT,aT,aZ,e1,aW,pq,Um _ (dS.refl _),qg,gW,sM,Xw,Pb,dQ]
 cases hw:h_ a with
 | none =>
  rw[hw] at fG AF;simp only[Pj] at fG;subst fG;simp only at AF;have Un:∀env t,jj env t (some V.bq)=some (.bq,env):=λ_ _=>rfl;simp only[Un,zn,au,aI];refine ze ?_;simp only[zt,ah,zc,zr,zE,zi,Nat.reduceEqDiff,aq,zh,aF,zv,zd,zn,au,aI,zp,fK,zP,zY,aT,za,cI,Nat.reduceLT,aT,aZ,aW,iK,zkX,bH,pJ,Cg]
  refine ze ?_;simp only[zt,ah,zc,bC,wh,zw,zE,zi,zj,Nat.reduceEqDiff,aq,zh,aF,zv,zd,zn,au,aI,zB,zp,zu,cG,cA,zq,a_,eM,zP,zY,aT,za,cI,Nat.reduceLT,aT,aZ,e1,aW,Eu,hl7 _ hN,Qw]
  have pK:nth bs' (bs.length+1)=some (.cells [.bq] 93):=(hN.nth (by omega)).trans (Nb e bs)
  by_cases h0:0<mn
  ·refine .inl ⟨decide_eq_true h0,?_⟩;rw[if_pos h0] at AF;have b8:∀env:aj,qV prog 93 ⟨bs',fJ⟩ [] [] (some (.bq,env)) (some (.ptr (bs.length+1) 0))=_:=λenv=>LV pK rfl rfl rfl;refine ze ?_;simp only[zt,ah,zC,Nat.reduceEqDiff,aq,zH,aF,bK,aI,zu,cA,aT,za,cI,Nat.reduceLT,aT,aZ,e2,aW,b8]
   simp only[go_ret,zo,je,ky]
   exact Xu (by simp[za,e2]) rfl (qw (by omega)) (((xp e bs).trans hN).set (by omega)) (hed .bq) AF
  ·refine .inr ⟨decide_eq_false h0,?_⟩;rw[if_neg h0] at AF;have b8:∀env:aj,qV prog 93 ⟨bs',fJ⟩ [] [] (some (.bf 127 (.agg []),env)) (some (.ptr (bs.length+1) 0))=_:=λenv=>LV pK rfl rfl rfl
   try simp only[bC,wh,zc]
   refine ze ?_;simp only[zt,ah,zC,jd,Nat.reduceEqDiff,aq,zh,zd,au,bK,aI,vF,zu,cA,aT,za,cI,Nat.reduceLT,aT,aZ,e2,aW,zjK,LR Jl,qu,b8]
   simp only[go_ret,zo,Hz]
   refine⟨rfl,[.bf 127 (.agg [])],?_,((xp e bs).trans hN).set (by omega),hed (.bf 127 (.agg [])),?_⟩
   ·refine Pk (v:=.bf 127 (.agg [])) (b:=bs.length+1) (by simp[za,e2]) ?_
    exact qw (by omega)
   ·rw[AF];exact⟨bs.length,by simp only[cI];omega,bV _,rfl⟩
 | some x =>
  rw[hw] at fG AF;obtain⟨t,u,rfl⟩:=fG.bf;simp only at AF;simp only[qu,zn,au,aI];refine ze ?_;simp only[zt,ah,zc,zr,zE,zi,Nat.reduceEqDiff,aq,zh,aF,zv,zd,zn,au,aI,zp,fK,zP,zY,aT,za,cI,Nat.reduceLT,aT,aZ,aW,qo,zkW,fK,Cz,pJ,E1]
  obtain⟨hi,r9,fP⟩:=fG;have pK:nth (bs'++[aN.cells (Gy (.bf t u) (decide (mx<0)) (mn == 0 || gJ x)) 140]) (bs.length+1)=some (.cells [.bq] 93):=(kV (es:=[]) (by omega)).trans ((hN.nth (by omega)).trans (Nb e bs))
  have b8:∀env:aj,qV prog 93 ⟨bs'++[aN.cells (Gy (.bf t u) (decide (mx<0)) (mn == 0 || gJ x)) 140],fJ⟩ [] [] (some (.bf 138 (.ptr bs'.length 0),env)) (some (.ptr (bs.length+1) 0))=_:=λenv=>LV pK rfl rfl rfl
  have AG:=λenv=>jV (lk:=[]) (df:=[]) (env:=env) (M9 hg fP (n:=n) hn fJ);rw[hg.uq] at AG;have Fy:∀b c,(V.agg (Gy (.bf t u) b c)).laid=Gy (.bf t u) b c:=λ_ _=>rfl
  have fin:∀env:aj,nth env 2=some (.ptr (bs.length+1) 0)->Hz prog [.cell 2 93] (zq8 bs (h_ e)) .ret ⟨env,⟨(bs'++[aN.cells (Gy (.bf t u) (decide (mx<0)) (mn == 0 || gJ x)) 140]).set (bs.length+1) (.cells [.bf 138 (.ptr bs'.length 0)] 93),tM (bs.length+1) (.bf 138 (.ptr bs'.length 0)) fJ⟩,[],[]⟩:=λenv h2=>by
   simp only[Hz];refine⟨rfl,[.bf 138 (.ptr bs'.length 0)],Pk (v:=.bf 138 (.ptr bs'.length 0)) (b:=bs.length+1) h2 (qw (by simp;omega)),(((xp e bs).trans hN).push).set (by omega),hed _,?_⟩
   rw[AF];refine⟨bs'.length+1,by simp,bs'.length,hi,.bf t u,?_,r9,by omega,rfl,?_⟩
   ·refine(fP.frame λi h3 h4=>?_).nw (lo':=bs.length) (by omega) (bV _)
    rw[z8 (by omega)]
    exact kV (es:=[]) (by omega)
   ·rw[z8 (by omega)]
    exact Vm.lq (es:=[])
  have Dt:∀env:aj,nth env 106=some (.ptr bs.length 8)->aq env (.tmp 106)=some (.ptr bs.length 8):=λenv h=>by simp[aq,h,aX]
  cases h0:(mn == 0) with
  | true =>
   rw[h0] at b8 fin pK;simp only[Bool.true_or] at b8 fin pK
   refine vZ [2] [] [(false,false,false,false),(false,false,false,false),(true,false,false,false),(false,false,false,false),(false,false,false,false),(false,false,false,false),(false,false,false,false),(false,false,false,false),(false,false,false,false),(false,true,false,false),(false,false,false,false),(false,false,false,false),(false,true,false,true),(false,false,false,false),(false,true,false,true)] (tk:=[]) (by kernel_rfl) (by kernel_rfl) ?_
   simp only[zr,zw,wb,zC,zE,qD,jd,zj,Nat.reduceEqDiff,bt,aq,zh,aF,qt,zd,aI,zB,zp,zu,cG,cA,zq,a_,fK,qc,eM,fW,aT,qZ,za,cI,Nat.reduceLT,aT,aZ,l7,Q8,zF,zb,zg,qa,gS,yh,oh,l8,iP,om,mS,kA,wo,jU,jy,Rf,e1,e2,aW,Jo,Eu,hl8 _ hN,hl7 _ hN,qo,jr,qE,h0,zW,AG,qZ,znV,znW,qQ (show eF (.agg (Gy (.bf t u) (decide (mx<0)) true))=true from rfl),Fy,LR Na,qu,qt,b8]
   simp only[go_ret,zo,je,ky]
   exact fin _ (by simp[za,e2])
  | false =>
   rw[h0] at b8 fin pK;simp only[Bl] at b8 fin pK
   refine vZ [2] [] [(false,false,false,false),(false,false,false,false),(true,false,false,false),(false,false,false,false),(false,false,false,false),(false,false,false,false),(false,false,false,false),(false,false,false,false),(false,false,false,false),(false,true,false,false),(false,false,false,false),(false,false,false,false),(false,true,false,true),(false,false,false,false),(false,true,false,true)] (tk:=[]) (by kernel_rfl) (by kernel_rfl) ?_
   simp only[zr,zw,wb,zC,zE,qD,jd,zj,Nat.reduceEqDiff,bt,aq,zh,aF,qt,zd,aI,zB,zp,zu,cG,cA,zq,a_,fK,qc,eM,fW,aT,q5,za,cI,Nat.reduceLT,aT,aZ,l7,Q8,zF,zb,zg,qa,eX,kZ,oh,l8,iP,om,mS,kA,wo,jU,jy,Rf,e1,e2,aW,Jo,Eu,hl8 _ hN,hl7 _ hN,qo,jr,qE,h0,zW,AG,q5,znV,znW,qQ (show eF (.agg (Gy (.bf t u) (decide (mx<0)) (gJ x)))=true from rfl),Fy,LR Na,qu,qt,b8]
   refine⟨⟨q6 (Dt _ (by simp[za,aW])) (hl8 _ hN _ _) rfl,trivial⟩,?_⟩
   simp only[go_ret,zo,je,ky]
   exact fin _ (by simp[za,e2])
end
section
variable{gl:Gl}
def Pp:C4 prog 135 93 1 16:=⟨by kernel_rfl,by kernel_rfl,by kernel_rfl,by decide,by kernel_rfl,by kernel_rfl,by kernel_rfl⟩
def rB:∀(l:List E),cQ l=l.filterMap h_
 | []=>by simp[cQ]
 | a::l=>by
  simp only[cQ,List.filterMap_cons,rB l];cases h_ a<;>rfl
def ze7{l:List E}{k:Nat}{a:E}(h:l[k]?=some a):cQ (l.take (k+1))=cQ (l.take k)++(h_ a).toList:=by
 rw[rB,rB,G1,h,List.filterMap_append];cases hw:h_ a<;>simp[hw]
def uT.snoc{bs:List aN}:∀{l:List Wd}{lo m m' hi:Nat}{vs:aj}{w:Wd}{v:V},uT bs l lo m vs->At bs w m' hi v->m<=m'->uT bs (l++[w]) lo hi (vs++[v])
 | [],_,_,_,_,_,_,_,h,h2,hm=>by
  rw[h.2];exact⟨_,_,[],rfl,h2.nw (by have:=h.1;omega) (bV _),bV _,rfl⟩
 | x::l,_,_,_,_,_,_,_,⟨a,v',oz,e,h3,h4⟩,h2,hm=>by
  subst e;exact⟨a,v',oz++[_],rfl,h3,h4.snoc h2 hm⟩
def yk(vs:aj)(nl:Bool):aj:=[kR 1 93 vs,.bool nl,.bool false]
def z27:∃z,qO prog 27=some z/\eF z=true/\z.cells.length=10/\z.cells.all (λc=>!(locked c))=true:=by
 refine⟨_,(show qO prog 27=some (enc (.mk 0 0 0 0 0 0 [] 0 0 true [])) by kernel_rfl),rfl,rfl,rfl⟩
def zrc{env:aj}:ki prog 137 #[] env=some (.agg [.aU,.bool false,.bool false]):=by kernel_rfl
def zqm{bs:List aN}{es:aC}{cs:aj}{a:E}{env:aj}{lk:aC}{df:aV}(h1:cs.length=10)(h2:cs.all (λc=>!(locked c))=true):qV prog 27 ⟨bs++[.cells cs 27],es⟩ lk df (some (enc a,env)) (some (.ptr bs.length 0))=some (.skip,⟨env,⟨bs++[.cells (aE a) 27],es⟩,lk,df⟩):=by
 have hl:(enc a).laid=aE a:=by rw[zV];exact wx a
 rw[jn C7 (H:=⟨bs++[aN.cells cs 27],es⟩) (b:=bs.length) (off:=0) (cs:=cs) (ty:=27) Vm.lq (by rw[zV];rfl) (by rw[hl,qC]) (by omega) (w9 h2 (by omega)),qR (cL a),hl,BP (by rw[qC,h1]),T']
def zqn{_env:aj}{_H:Hp}{_lk:aC}{_df:aV}:∃cs,(cs.length=10/\cs.all (λc=>!(locked c))=true)/\∀{env:aj}{H:Hp}{lk:aC}{df:aV},OY 27 env H lk df (qO prog 27)=some (.val (.ptr H.af.length 0),⟨env,H.push (.cells cs 27),lk,df⟩):=by
 obtain⟨z,h1,h2,h3,h4⟩:=z27;exact⟨z.cells,⟨h3,h4⟩,by rw[h1];exact wI h2⟩
def znX{H:Hp}{nl:Bool}{l:List E}:jM prog H 25 (qS nl (bl l))=some (l.length:Int):=by
 rcases kn nl (bl l) with h|⟨h0,h⟩<;>rw[h]
 ·simp[jM,aK]
 ·have:l=[]:=by cases l with|nil=>rfl|cons a l=>simp[bl] at h0
  subst this;simp[jM]
def ziP{env:aj}{t:Nat}{a:E}:jj env t (some (enc a))=some (enc a,env):=by rw[zV];rfl
def zsb{bs:List aN}{es:aC}{g:Nat->Nat->bS}{a:E}:zA prog ⟨bs++[.cells (aE a) 27],es⟩ g 27 (.ptr bs.length 0)=some (enc a):=by
 rw[vd (H:=⟨bs++[aN.cells (aE a) 27],es⟩) (b:=bs.length) (off:=0) (cs:=aE a) (ty:=27) Jm C7 Vm.lq (by rw[qC];decide),zV]
 simp only[E0];rw[Af (by rw[qC];decide)]
structure AI(e:E)(bs:List aN)(l:List E)(k:Nat)(H:List aN)(es:aC)(vs:aj):Prop where
 new:dS (B1 e bs) H
 c2:nth H (bs.length+1)=some (.cells [.bq] 93)
 own:nth H (bs.length+2)=some (.cells (yk vs ((cQ (l.take k)).any gJ)) 137)
 s_:uT H (cQ (l.take k)) (bs.length+3) H.length vs
 ed:∀p∈es,bs.length<=p.1
def zrd(hg:GW gl){n:Nat}{pl s0 s1 s2 s3 mn mx:Int}{tx:aR}{nl:Bool}{l:List E}{bs:List aN}{es:aC}(hn:l.length<n)(Ct:l.length<=2 ^ 40)(ih:∀a∈l,∀bs es,yN gl n a bs es):yN gl (n+1) (.mk 6 pl s0 s1 s2 s3 tx mn mx nl l) bs es:=by
 refine Ul (Uk hg (op:=6) rfl λenv aW e1 e2 Aq=>?_);generalize hE:E.mk 6 pl s0 s1 s2 s3 tx mn mx nl l=e;have Hs:aE e=[.int .i64 6,.int .i64 pl,.int .u64 s0,.int .u64 s1,.int .u64 s2,.int .u64 s3,.str tx,.int .i64 mn,.int .i64 mx,qS nl (bl l)]:=by rw[<- hE];rfl
 have AF:h_ e=if (cQ l).isEmpty then none else some (.alt (cQ l) ((cQ l).any gJ) false):=by rw[<- hE];simp only[h_];rfl
 have hB:(B1 e bs).length=bs.length+2:=Pm e bs;have Um:∀bs',dS (B1 e bs) bs'->∀es g,zA prog ⟨bs',es⟩ g 25 (.ptr bs.length 9)=some (qS nl (bl l)):=λbs' hN es g=>zM (H:=⟨bs',es⟩) LS ((hN.nth (by omega)).trans (Rh e bs)) (by rw[Hs];rfl)
 have Xx:dS (B1 e bs) (B1 e bs++[aN.cells (yk [] false) 137]):=(dS.refl _).push;have Fy:(V.agg (yk [] false)).laid=yk [] false:=rfl;have s7:ki prog 137 #[]=λ_=>some (.agg (yk [] false)):=by funext env;exact zrc
 simp only[Es,Et,Hy,f45,tS,c1,c2,zc];refine ze ?_;simp only[zt,ah,zc,zE,zi,Nat.reduceEqDiff,aq,zh,aF,zv,zd,zn,au,aI,zB,zp,fK,zP,zY,aT,za,cI,Nat.reduceLT,aT,aZ,Aq,aW,qE,Int.reduceBEq,bH,pJ,Cg,fK]
 refine ze ?_;simp only[zt,ah,zc,zE,zi,Nat.reduceEqDiff,aq,zh,aF,zv,zd,zn,au,aI,zB,zp,fK,zP,zY,aT,za,cI,Nat.reduceLT,aT,aZ,Aq,aW,qE,Int.reduceBEq,bH,pJ,Cg,fK]
 refine ze ?_;simp only[zt,ah,zc,zE,zi,Nat.reduceEqDiff,aq,zh,aF,zv,zd,zn,au,aI,zB,zp,fK,zP,zY,aT,za,cI,Nat.reduceLT,aT,aZ,Aq,aW,qE,beq_self_eq_true,Cz,pJ,fK,E1]
 refine ze ?_;simp only[zt,ah,zc,wb,jd,zi,Nat.reduceEqDiff,zh,qt,V3,zd,zn,au,aI,qc,aT,za,cI,Nat.reduceLT,aT,aZ,aW,hB,s7,qQ (show eF (.agg (yk [] false))=true from rfl),Fy,qt,V3]
 refine ze ?_;simp only[zt,ah,zU,zr,zw,zj,wU,Nat.reduceEqDiff,aq,aF,zd,au,aI,zu,cG,cA,zq,a_,eM,aT,za,cI,Nat.reduceLT,aT,aZ,e1,aW,pq,Um _ Xx,qg,znX]
 obtain⟨cz,⟨VV,Qp⟩,hz3⟩:=zqn (_env:=env) (_H:=⟨[],[]⟩) (_lk:=[]) (_df:=[]);have Uo:AI e bs l 0 (B1 e bs++[aN.cells (yk [] false) 137]) [] []:=by
  refine⟨Xx,(kV (es:=[]) (by omega)).trans (Nb e bs),?_,?_,by simp⟩
  ·have:=Vm.lq (bs:=B1 e bs) (ls:=[aN.cells (yk [] false) 137]) (es:=[]);rw[hB] at this;exact this
  ·refine⟨?_,rfl⟩;simp[hB]
 refine km (λm s=>∃k env H E vs,m+k=l.length/\s=⟨env,⟨H,E⟩,[],[]⟩/\env.length=125/\nth env 2=some (.ptr (bs.length+1) 0)/\nth env 7=some (.ptr (bs.length+2) 0)/\nth env 55=some (qS nl (bl l))/\nth env 56=some (.int .i64 l.length)/\nth env 57=some (.int .i64 (k:Nat))/\AI e bs l k H E vs) l.length hn ⟨0,_,_,[],[],rfl,rfl,?_,?_,?_,?_,?_,?_,Uo⟩ ?_
 ·simp[aW]
 ·simp[za,e2]
 ·simp[za,aW]
 ·simp[za,aW]
 ·simp[za,aW]
 ·simp[za,aW]
 clear e1 e2 Aq aW Uo env;rintro m s ⟨k,env,H,E,vs,Ck,rfl,aW,e2,e7,Xy,Xz,Uq,hA⟩;have hHl:bs.length+3<=H.length:=hA.s_.le;simp only[zc];refine ze ?_;simp only[zt,ah,zc,bC,zU,zE,aq,zd,au,aI,zB,zp,zP,zY,aT,za,Nat.reduceLT,aT,Xz,Uq,aW,jr]
 by_cases hk:k<l.length
 ·refine .inl ⟨by simp;omega,?_⟩
  obtain⟨a,ha⟩:∃a,l[k]?=some a:=⟨l[k],by simp[hk]⟩
  have Ew:a∈l:=oH ha;have sM:zO prog 25 (qS nl (bl l)) (k:Int)=some (.vp (aE a)):=Xv ha
  try simp only[bC,zc,zU]
  refine ze ?_;simp only[zt,ah,zc,zw,jf,zC,qK,Nat.reduceEqDiff,aq,zh,zd,au,bK,aI,zB,zu,On,cG,cA,gW,qc,aT,za,cI,Nat.reduceLT,aT,aZ,Xy,Uq,aW,qg,gW,sM,Xw,Pb,hz3,ziP,zqm VV Qp]
  obtain⟨v,bs',fJ,Bx,hN,Bt,fG⟩:=ih a Ew (H++[aN.cells (aE a) 27]) E;have dQ:Cx.cX ⟨prog,gl.g,zl prog gl n,uR⟩ 45 [enc a] ⟨H++[aN.cells (aE a) 27],E⟩=some (.val v,⟨bs',fJ++E⟩):=zR func45 rfl Bx;have FD:dS H bs':=(dS.push (dS.refl H)).trans hN;have hHb:=FD.len;have hE':∀p∈fJ++E,bs.length<=p.1:=λp hp=>by
   rcases rO.1 hp with hp|hp
   ·have:=Bt p hp;simp at this;omega
   ·exact hA.ed p hp
  refine ze ?_;simp only[zt,ah,zc,zw,zi,jH,Nat.reduceEqDiff,bt,zQ,aq,zh,zd,au,aI,zu,cG,cA,qn,fH,iC,Bm,aT,za,cI,Nat.reduceLT,aT,aZ,aW,zsb,Pb,dQ]
  cases hw:h_ a with
  | none =>
   rw[hw] at fG;simp only[Pj] at fG;subst fG;have Un:∀env t,jj env t (some V.bq)=some (.bq,env):=λ_ _=>rfl;simp only[Un,zn,au,aI];refine ze ?_;simp only[zt,ah,zc,bC,wh,zr,zE,Nat.reduceEqDiff,aq,aF,zd,au,aI,zp,fK,zP,zY,aT,za,cI,Nat.reduceLT,aT,aZ,aW,iK,zkX,bH,pJ,Cg,fK]
   refine ze ?_;simp only[zt,ah,zr,zE,Nat.reduceEqDiff,aq,aF,zd,au,aI,zB,aT,za,cI,Nat.reduceLT,aT,aZ,Uq,aW,qf (show k<2 ^ 60 by omega),zo,bL]
   have ht:cQ (l.take (k+1))=cQ (l.take k):=by rw[ze7 ha,hw];simp
   refine⟨l.length - (k+1),by omega,k+1,_,bs',fJ++E,vs,by omega,rfl,?_,?_,?_,?_,?_,?_,?_⟩
   ·simp[aW]
   ·simp[za,e2]
   ·simp[za,e7]
   ·simp[za,Xy]
   ·simp[za,Xz]
   ·simp[za,aW]
   ·refine⟨hA.new.trans FD,(FD.nth (by omega)).trans hA.c2,?_,?_,hE'⟩
    ·rw[ht];exact(FD.nth (by omega)).trans hA.own
    ·rw[ht];exact(hA.s_.frame λi a b=>FD.nth b).nw (bV _) hHb
  | some x =>
   rw[hw] at fG;obtain⟨t,u,rfl⟩:=fG.bf;simp only[qu,zn,au,aI];refine ze ?_;simp only[zt,ah,zc,bC,wh,zr,zE,Nat.reduceEqDiff,aq,aF,zd,au,aI,zp,fK,zP,zY,aT,za,cI,Nat.reduceLT,aT,aZ,aW,qo,zkW,fK,Cz,pJ,E1]
   obtain⟨hi,r9,fP⟩:=fG;have E8:vs.length<=l.length:=by
    have:=hA.s_.len;rw[this,rB];exact cR (List.length_filterMap_le _ _) (by simp;omega)
   obtain⟨Ey,Ur⟩:∃Ey,Ey=(cQ (l.take k)).any gJ:=⟨_,rfl⟩;have iE:nth bs' (bs.length+2)=some (.cells (yk vs Ey) 137):=by rw[Ur];exact(FD.nth (by omega)).trans hA.own
   have Us:∀env,Ks prog 135 env ⟨bs',fJ++E⟩ [] [] (some (.ptr (bs.length+2) 0))=some (.val (kR 1 93 vs),⟨env,⟨bs'.set (bs.length+2) (.cells ((yk vs Ey).set 0 (Kt 1 vs)) 137),fJ++E⟩,M4 (bs.length+2) 0 vs,[]⟩):=λenv=>znH (H:=⟨bs',fJ++E⟩) FB iE rfl;obtain⟨HL,Ri⟩:∃HL,HL=bs'.set (bs.length+2) (.cells ((yk vs Ey).set 0 (Kt 1 vs)) 137):=⟨_,rfl⟩;rw[<- Ri] at Us
   have gL:nth HL (bs.length+2)=some (.cells ((yk vs Ey).set 0 (Kt 1 vs)) 137):=by rw[Ri,qw (by omega)]
   have abW:=Pp.bsl (v:=.bf t u) rfl rfl;have abX:∀H,jN prog H 135 (kR 1 93 vs) (.sl 1 [.bf t u] .no)=some (kR 1 93 (vs++[.bf t u])):=λH=>zjI Pp (by simp) (gR (by simp;omega) (by simp;omega))
   have b8:∀env,qV prog 135 ⟨HL,fJ++E⟩ (M4 (bs.length+2) 0 vs) [] (some (kR 1 93 (vs++[.bf t u]),env)) (some (.ptr (bs.length+2) 0))=some (.skip,⟨env,⟨HL.set (bs.length+2) (.cells (yk (vs++[.bf t u]) Ey) 137),tM (bs.length+2) (kR 1 93 (vs++[.bf t u])) (fJ++E)⟩,M4 (bs.length+2) 0 vs,[]⟩):=λenv=>by
    rw[jn Pp.st (H:=⟨HL,fJ++E⟩) gL zpl (by rw[ziF];rfl) (by simp[yk]) (znI (by simp[yk])),Hp.set,zkV]
    simp only[ziF,Vm.storeCells,List.set_set];rfl
   have abY:aX (V.sl 1 [V.bf t u] (.yes 93))=.sl 1 [.bf t u] .no:=rfl;refine y5 (tk:=[69]) (by kernel_rfl) ?_
   simp only[zt,ah,zeW,zdd,zC,zx,zj,zg2,ne_eq,Nat.reduceEqDiff,not_false_eq_true,aq,zh,zde,zd,au,bK,aI,zu,cG,bp,zq,a_,rP,aT,za,cI,Nat.reduceLT,aT,aZ,e7,aW,t_,Us,qo,abW,abY,Qu,abX,b8,zfE (cx:=⟨prog,gl.g,zl prog gl n,uR⟩) (show CB prog uR 135=false by kernel_rfl)]
   obtain⟨H2,Ut⟩:∃H2,H2=HL.set (bs.length+2) (.cells (yk (vs++[.bf t u]) Ey) 137):=⟨_,rfl⟩;obtain⟨E2,hE2⟩:∃E2,E2=tM (bs.length+2) (kR 1 93 (vs++[.bf t u])) (fJ++E):=⟨_,rfl⟩;have g2:nth H2 (bs.length+2)=some (.cells (yk (vs++[.bf t u]) Ey) 137):=by rw[Ut,qw (by rw[Ri,cI];omega)]
   have h2l:H2.length=bs'.length:=by rw[Ut,Ri];simp
   have h2n:∀i,i≠bs.length+2->nth H2 i=nth bs' i:=λi hi=>by rw[Ut,z8 (Ne.symm hi),Ri,z8 (Ne.symm hi)]
   have ab0:∀p∈E2,bs.length<=p.1:=by rw[hE2];exact y8 hE' (by omega)
   rw[<- Ut,<- hE2];have Uu:At H2 x (H.length+1) hi (.bf t u):=by
    have:=fP.frame (bs':=H2) λi a b=>h2n i (by simp at a;omega)
    simpa using this
   have lH:zA prog ⟨H2,E2⟩ gl.g 4 (.ptr (bs.length+2) 1)=some (.bool Ey):=zM (H:=⟨H2,E2⟩) El g2 rfl;have AG:=λenv=>jV (lk:=[]) (df:=[]) (env:=env) (M9 hg Uu (n:=n) (by omega) E2)
   rw[hg.uq] at AG;have LX:∀(env:aj)(b:Bool),qV prog 4 ⟨H2,E2⟩ [] [] (some (.bool b,env)) (some (.ptr (bs.length+2) 1))=some (.skip,⟨env,⟨H2.set (bs.length+2) (.cells (yk (vs++[.bf t u]) b) 137),E2⟩,[],[]⟩):=λenv b=>by
    rw[jn LK (H:=⟨H2,E2⟩) g2 rfl rfl (by simp[yk]) (w9 (by cases vs<;>rfl) (by simp[yk]))]
    rw[Xq];rfl
   have ht:cQ (l.take (k+1))=cQ (l.take k)++[x]:=by rw[ze7 ha,hw];rfl
   have fin:∀env:aj,env.length=125->nth env 2=some (.ptr (bs.length+1) 0)->nth env 7=some (.ptr (bs.length+2) 0)->nth env 55=some (qS nl (bl l))->nth env 56=some (.int .i64 l.length)->nth env 57=some (.int .i64 ((k+1:Nat):Int))->∃i,i<m/\∃k bB H E oz,i+k=l.length/\(⟨env,⟨H2.set (bs.length+2) (.cells (yk (vs++[.bf t u]) (Ey || gJ x)) 137),E2⟩,[],[]⟩:St)=⟨bB,⟨H,E⟩,[],[]⟩/\bB.length=125/\nth bB 2=some (.ptr (bs.length+1) 0)/\nth bB 7=some (.ptr (bs.length+2) 0)/\nth bB 55=some (qS nl (bl l))/\nth bB 56=some (.int .i64 l.length)/\nth bB 57=some (.int .i64 (k:Nat))/\AI e bs l k H E oz:=by
    intro env g0 g2' g7 g55 g56 g57;refine⟨m - 1,by omega,k+1,env,_,E2,vs++[.bf t u],by omega,rfl,g0,g2',g7,g55,g56,g57,?_⟩
    have hnw:dS (B1 e bs) (H2.set (bs.length+2) (.cells (yk (vs++[.bf t u]) (Ey || gJ x)) 137)):=by
     rw[Ut,Ri];have hq:=hA.new.trans FD;exact((hq.set (by omega)).set (by omega)).set (by omega)
    refine⟨hnw,?_,?_,?_,ab0⟩
    ·rw[z8 (by omega),h2n _ (by omega)];exact(FD.nth (by omega)).trans hA.c2
    ·rw[qw (by omega),ht,List.any_append,<- Ur];simp
    ·rw[ht,cI,h2l];have f1:uT (H2.set (bs.length+2) (.cells (yk (vs++[.bf t u]) (Ey || gJ x)) 137)) (cQ (l.take k)) (bs.length+3) H.length vs:=hA.s_.frame λi a b=>by rw[z8 (by omega),h2n i (by omega)];exact FD.nth b
     have f2:At (H2.set (bs.length+2) (.cells (yk (vs++[.bf t u]) (Ey || gJ x)) 137)) x (H.length+1) hi (.bf t u):=Uu.frame λi a b=>z8 (by omega)
     exact f1.snoc (f2.nw (bV _) r9) (by omega)
   refine ze ?_;cases G9:Ey with
   | true =>
    rw[G9] at lH fin;simp only[Bool.true_or] at fin;simp only[zt,ah,wh,zr,zw,zC,qD,zx,zj,Nat.reduceEqDiff,bt,aq,zh,aF,zv,zd,au,bK,aI,zp,zu,cG,cA,bp,zq,a_,eM,aT,qZ,za,cI,Nat.reduceLT,aT,aZ,jb,zF,zb,zg,qa,gS,yh,e7,aW,BT,lH,zW,AG,qo,qZ,LX]
    refine ze ?_;simp only[zt,ah,zr,zE,Nat.reduceEqDiff,aq,aF,zd,au,aI,zB,aT,za,cI,Nat.reduceLT,aT,aZ,Uq,aW,qf (show k<2 ^ 60 by omega),zo,bL]
    refine fin _ ?_ ?_ ?_ ?_ ?_ ?_
    ·simp[aW]
    ·simp[za,e2]
    ·simp[za,e7]
    ·simp[za,Xy]
    ·simp[za,Xz]
    ·simp[za,aW]
   | false =>
    rw[G9] at lH fin;simp only[Bl] at fin;simp only[zt,ah,wh,zr,zw,zC,qD,zx,zj,Nat.reduceEqDiff,bt,aq,zh,aF,zv,zd,au,bK,aI,zp,zu,cG,cA,bp,zq,a_,eM,aT,q5,za,cI,Nat.reduceLT,aT,aZ,jb,zF,zb,zg,qa,eX,kZ,e7,aW,BT,lH,zW,AG,qo,q5,LX]
    refine ze ?_;simp only[zt,ah,zr,zE,Nat.reduceEqDiff,aq,aF,zd,au,aI,zB,aT,za,cI,Nat.reduceLT,aT,aZ,Uq,aW,qf (show k<2 ^ 60 by omega),zo,bL]
    refine fin _ ?_ ?_ ?_ ?_ ?_ ?_
    ·simp[aW]
    ·simp[za,e2]
    ·simp[za,e7]
    ·simp[za,Xy]
    ·simp[za,Xz]
    ·simp[za,aW]
 ·refine .inr ⟨by simp;omega,?_⟩
  obtain rfl:k=l.length:=by omega
  have Og:vs.length=(cQ l).length:=by have:=hA.s_.len;rwa [G2] at this
  simp only[jY,q8,qB,zo,dV,zc,pP,aT,zo];have lz:zA prog ⟨H,E⟩ gl.g 135 (.ptr (bs.length+2) 0)=some (kR 1 93 vs):=zM (H:=⟨H,E⟩) FB hA.own rfl;refine ze ?_;simp only[zt,ah,zc,bC,zr,zw,zE,zx,zj,wU,Nat.reduceEqDiff,aq,aF,zd,au,aI,zB,zp,zu,Xb,cG,cA,bp,zq,a_,rP,zP,zY,aT,za,cI,Nat.reduceLT,aT,aZ,e7,aW,t_,lz,Xb,znG abF,qE]
  by_cases h0:cQ l=[]
  ·have XA:vs=[]:=by cases vs with|nil=>rfl|cons a b=>rw[h0] at Og;simp at Og
   subst XA;refine .inl ⟨rfl,?_⟩;rw[h0] at AF;have b8:∀env:aj,qV prog 93 ⟨H,E⟩ [] [] (some (.bq,env)) (some (.ptr (bs.length+1) 0))=_:=λenv=>LV hA.c2 rfl rfl rfl;refine ze ?_;simp only[zt,ah,zC,Nat.reduceEqDiff,aq,zH,aF,bK,aI,zu,cA,List.length_nil,aT,za,cI,Nat.reduceLT,aT,aZ,e2,aW,b8]
   simp only[go_ret,zo,je,ky]
   exact Xu (by simp[za,e2]) rfl (qw (by omega)) (((xp e bs).trans hA.new).set (by omega)) (y8 (b:=bs.length+1) (v:=.bq) hA.ed (by omega)) AF
  ·have XA:(vs.length:Int)≠0:=by
    cases hf:cQ l with
    | nil=>exact absurd hf h0
    | cons a b=>rw[hf] at Og;simp at Og;omega
   refine .inr ⟨beq_false_of_ne XA,?_⟩;have ab1:h_ e=some (.alt (cQ l) ((cQ l).any gJ) false):=by
    rw[AF,if_neg (by cases hf:cQ l with|nil=>exact absurd hf h0|cons a b=>simp)]
   have b8:∀env:aj,qV prog 93 ⟨H,E⟩ [] [] (some (.bf 134 (.ptr (bs.length+2) 0),env)) (some (.ptr (bs.length+1) 0))=_:=λenv=>LV hA.c2 rfl rfl rfl;refine ze ?_;simp only[zt,ah,zr,zC,Nat.reduceEqDiff,aq,zh,zd,au,bK,aI,zu,cA,aT,za,cI,Nat.reduceLT,aT,aZ,e2,e7,aW,LR Uj,qu,b8]
   simp only[go_ret,zo,je,ky,Hz]
   refine⟨rfl,[.bf 134 (.ptr (bs.length+2) 0)],Pk (v:=.bf 134 (.ptr (bs.length+2) 0)) (b:=bs.length+1) (by simp[za,e2]) (qw (by omega)),((xp e bs).trans hA.new).set (by omega),y8 (b:=bs.length+1) (v:=.bf 134 (.ptr (bs.length+2) 0)) hA.ed (by omega),?_⟩
   rw[ab1];have Uv:=hA.s_;have iE:=hA.own;rw[G2] at Uv iE;refine⟨H.length,by simp,bs.length+2,bs.length+3,vs,.yes 93,by omega,by omega,Uv.frame λi a b=>z8 (by omega),rfl,?_⟩
   rw[z8 (by omega),iE]
   cases vs with
   | nil=>simp at XA
   | cons a b=>rfl
end
section
variable{gl:Gl}
def ze8{Mj:aj->List aN->Option (Ex×St)}{bd:aj->List aN->Option (Ex×St)}{ok:List aN->Bool}(Inv:Nat->List aN->aC->Prop)(og:Ex->Hp->Prop)(xs:List aj)
  (s9:∀k x bs es,xs[k]?=some x->Inv k bs es->∃e iU AN c7,Mj x bs=some (.normal,⟨e,⟨iU,AN⟩,c7,[]⟩)/\ok iU=true/\∃ex e2 j_ nS lV,bd (e.map aX) iU=some (ex,⟨e2,⟨j_,nS⟩,lV,[]⟩)/\ok j_=true/\((ex=.normal/\Inv (k+1) j_ (nS++(AN++es)))\/(ex=.ret/\og .ret ⟨j_,nS++(AN++es)⟩)))
  (By:∀bs es,Inv xs.length bs es->og .normal ⟨bs,es⟩):∀(m k:Nat)(bs:List aN)(es:aC),m+k=xs.length->Inv k bs es->∃ex H,yu Mj bd ok (xs.drop k) ⟨bs,es⟩=some (ex,H)/\og ex H
 | 0,k,bs,es,hm,hI=>by
  obtain rfl:k=xs.length:=by omega
  exact⟨.normal,_,by rw[List.drop_length];rfl,By _ _ hI⟩
 | m+1,k,bs,es,hm,hI=>by
  have hk:k<xs.length:=by omega
  obtain⟨e,iU,AN,c7,h1,h2,ex,e2,j_,nS,lV,h3,h4,h5⟩:=s9 k xs[k] bs es (by simp[hk]) hI
  rw[J6 hk];rcases h5 with⟨rfl,h5⟩|⟨rfl,h5⟩
  ·obtain⟨ex,H,h6,h7⟩:=ze8 Inv og xs s9 By m (k+1) j_ _ (by omega) h5
   exact⟨ex,H,by simp only[yu,h1,h2,h3,h4,dN,pI,bH,aZ,h6],h7⟩
  ·exact⟨.ret,_,by simp only[yu,h1,h2,h3,h4,dN,pI,bH,aZ],h5⟩
def znY{cx:Cx}{n:Nat}{Q:Ex->St->Prop}{f:aH}{ps:Array Tmp}{Pq bd:Code}{k:List It}{env:aj}{bs:List aN}{es:aC}{lk:aC}{df:aV}{fv:V}{b sz:Nat}{ty:ai}{ys:aj}{back:Bool}
  (hp:aq env f=some fv) (hi:cx.DN fv ⟨bs,es⟩=some (b,ty,some (sz,ys),back)) (hc:(calm Pq && calm bd && Nat.beq ps.size (if back then 2 else 1))=true)
  (h:∃ex H1,yu (λx bs=>cx.code n Pq ⟨G8 (env.map aX) ps.toList x,⟨bs,[]⟩,[],[]⟩) (λe bs=>cx.code n bd ⟨e,⟨bs,[]⟩,[],[]⟩) (jp bs.length) (jk back ys) ⟨cE b ty sz ys bs,es⟩=some (ex,H1)/\∃H2,iA b H1=some H2/\go cx n Q k ex ⟨env.map aX,H2,[],(.dx,[])::df⟩) :
  go cx n Q (.c (.rangeFunc f ps Pq bd)::k) .normal ⟨env,⟨bs,es⟩,lk,df⟩:=by
 obtain⟨ex,H1,h1,H2,h2,h3⟩:=h;simp only[go];refine⟨ex,_,?_,h3⟩;simp only[Cx.code,hp,hi,hc,pI,bH,aZ,dN,h1,h2]
def zl8{cx:Cx}{n:Nat}{Q:Ex->St->Prop}{f:aH}{ps:Array Tmp}{Pq bd:Code}{k:List It}{env:aj}{bs:List aN}{es:aC}{lk:aC}{df:aV}{fv:V}{b sz:Nat}{ty:ai}{ys:aj}{back:Bool}
  (Inv:Nat->List aN->aC->Prop) (hp:aq env f=some fv) (hi:cx.DN fv ⟨bs,es⟩=some (b,ty,some (sz,ys),back)) (hc:(calm Pq && calm bd && Nat.beq ps.size (if back then 2 else 1))=true)
  (h0:Inv 0 (cE b ty sz ys bs) es)
  (By:∀bs' fJ,Inv (jk back ys).length bs' fJ->∃H2,iA b ⟨bs',fJ⟩=some H2/\go cx n Q k .normal ⟨env.map aX,H2,[],(.dx,[])::df⟩)
  (s9:∀j x bs' fJ,(jk back ys)[j]?=some x->Inv j bs' fJ->go cx n (λex s=>ex=.normal/\s.defers=[]/\jp bs.length s.H.af=true /\
   go cx n (λF8 s2=>s2.defers=[]/\jp bs.length s2.H.af=true/\((F8=.normal/\Inv (j+1) s2.H.af (s2.H.aS++(s.H.aS++fJ)))\/(F8=.ret/\∃H2,iA b ⟨s2.H.af,s2.H.aS++(s.H.aS++fJ)⟩=some H2/\go cx n Q k .ret ⟨env.map aX,H2,[],(.dx,[])::df⟩)))
    [.c bd] .normal ⟨s.env.map aX,⟨s.H.af,[]⟩,[],[]⟩) [.c Pq] .normal ⟨G8 (env.map aX) ps.toList x,⟨bs',[]⟩,[],[]⟩) :
  go cx n Q (.c (.rangeFunc f ps Pq bd)::k) .normal ⟨env,⟨bs,es⟩,lk,df⟩:=by
 refine znY hp hi hc ?_;refine ze8 Inv (λex H1=>∃H2,iA b H1=some H2/\go cx n Q k ex ⟨env.map aX,H2,[],(.dx,[])::df⟩) (jk back ys) (λj x bs' fJ hx hI=>?_) By (jk back ys).length 0 _ _ (by omega) h0
 obtain⟨ex,⟨e,⟨iU,AN⟩,c7,dB⟩,h1,rfl,h2,h3,h4⟩:=yL (s9 j x bs' fJ hx hI);obtain⟨F8,⟨e2,⟨j_,nS⟩,lV,pL⟩,h5,h6,h7,h8⟩:=yL h4;simp only at h2 h6;subst h2 h6;exact⟨e,iU,AN,c7,h1,h3,F8,e2,j_,nS,lV,h5,h7,h8⟩
def lP{cx:Cx}{n:Nat}{Q:Ex->St->Prop}{k:List It}{env:aj}{H:Hp}{lk:aC}{df:aV}(F:aj->Prop)(h1:F env)(h2:∀env,F env->go cx n Q k .normal ⟨env,H,lk,df⟩):go cx n Q k .normal ⟨env,H,lk,df⟩:=h2 _ h1
def jz{l:aj}{i:Nat}{v:V}(h:nth l i=some v):nth (l.map aX) i=some (aX v):=by rw[zf] at h ⊢;rw[pH,h];rfl
def zre{cx:Cx}{takes:bA}{dst:eC}{type:ai}{pos:String}{after:Array Edge}{guard:i_}{env:aj}{H:Hp}{lk:aC}{df:aV}{fn:Fn}{t:aH}:cx.op takes ⟨dst,.makeFunc fn #[] #[t],type,pos,after,guard⟩ env H lk df=fU env H lk df ((aq env t).map λv=>.fn fn [] [v]):=by
 simp only[Cx.op];refine wT ?_;simp only[qi,bt,zQ,Option.bind_eq_bind,cG];cases aq env t<;>rfl
def Kv(b:Nat):V:=.fn (.func 98) [] [.ptr b 0]
def e67(hg:GW gl){n:Nat}{bs:List aN}{es:aC}{nl:Bool}{l:List E} :
  zl prog gl (n+1) 67 [qS nl (bl l)] ⟨bs,es⟩=some (.ret (Kv bs.length),⟨bs++[.cells [qS nl (bl l)] 25],es⟩):=by
 suffices eG:go ⟨prog,gl.g,zl prog gl n,gl.uq⟩ n (Fx prog f67.results.toList λv H1=>v=Kv bs.length/\H1=⟨bs++[.cells [qS nl (bl l)] 25],[]⟩) [.c (f67.body.getD .skip)] .normal ⟨[qS nl (bl l)]++List.replicate 3 (.bx []),⟨bs,[]⟩,[],[]⟩ by
  obtain⟨v,H1,h1,rfl,rfl⟩:=jm (gl:=gl) (f:=67) (bs:=bs) (es:=es) (args:=[qS nl (bl l)]) (n:=n) (hg.hk _ _ (by decide)) (λH=>hg.fB _ _ _ _) func67 rfl eG
  rw[h1];have:(Kv bs.length).top=bs.length+1:=by simp[Kv,V.top,aA]
  rw[this];simp only[ql];rw[if_neg]
  ·rfl
  ·simp only[bN,not_and];intro hb;have:=pO hb;omega
 have s7:eF (qS nl (bl l))=true/\(qS nl (bl l)).laid=[qS nl (bl l)]:=by
  rcases kn nl (bl l) with h|⟨_,h⟩<;>rw[h]<;>exact⟨rfl,rfl⟩
 have iX:∀env t,jj env t (some (qS nl (bl l)))=some (qS nl (bl l),env):=λenv t=>by
  rcases kn nl (bl l) with h|⟨_,h⟩<;>rw[h]<;>rfl
 simp only[f67,tS,zc];refine ze ?_;simp only[zt,ah,zc,wb,zi,zh,zH,aF,zn,au,aI,cA,qc,iQ,gF,zb,cM,cN,List.replicate,iX,qQ s7.1,s7.2]
 have Zt:∀env t b,jj env t (some (V.fn (.func 98) [] [.ptr b 0]))=some (.fn (.func 98) [] [.ptr b 0],env):=λ_ _ _=>rfl;refine ze ?_;simp only[zt,ah,zi,aq,zh,zd,zn,au,aI,zu,cA,zb,zg,cM,cN,zre,Zt]
 simp only[go_ret,zo,Fx]
 exact⟨trivial,[Kv bs.length],rfl,rfl,trivial⟩
end
section
variable{gl:Gl}
def zg9{a b:List aN}{m:Nat}(h:dS a b)(hm:a.length<=m):jp m b=true:=by
 obtain⟨l,rfl,h1⟩:=h;simp only[jp,Cf];intro x hx;have:x∈l:=by
  rw[List.drop_append,List.drop_eq_nil_of_le hm,gF] at hx;exact FR hx
 exact h1 x this
def uV:∀(l:List E)(j:Nat),fI (l.drop j)=none->fI l=none
 | l,0,h=>h
 | [],j+1,h=>by simp only[List.drop_nil] at h;exact h
 | a::l,j+1,h=>by
  have:=uV l j (by simpa using h)
  simp only[fI,this]
def zqo(x w:Wd):Wd:=.both x w (gJ x && gJ w) false
def C9:bS->bS->bS->bS
 | some a,some b,some c=>if (eF a=true/\a.cells.length=1)/\(eF b=true/\b.cells.length=1)/\(eF c=true/\c.cells.length=1) then some (.agg (Vm.storeCells (Vm.storeCells (Vm.storeCells [.bq,.bq,.bool false,.bool false] 0 a.cells) 1 b.cells) 2 c.cells)) else none
 | _,_,_=>none
def znZ{env:aj}{x y z:aH}:ki prog 133 #[(0,x),(1,y),(2,z)] env=C9 (aq env x) (aq env y) (aq env z):=by
 have e0:ki prog 133 #[(0,x),(1,y),(2,z)] env=(vN [.bq,.bq,.bool false,.bool false] (nth [(0,1),(1,1),(2,1),(3,1)]) env [(0,x),(1,y),(2,z)]).map .agg:=by kernel_rfl
 rw[e0];simp only[vN,Option.bind_eq_bind,zb,zg];cases aq env x with
 | none=>rfl
 | some a =>
  simp only[cG,bN,G5,eM,pz]
  by_cases h1:eF a=true/\a.cells.length=1
  ·cases aq env y with
   | none=>simp[C9]
   | some b =>
    by_cases h2:eF b=true/\b.cells.length=1
    ·cases aq env z with
     | none=>simp[C9]
     | some c =>
      by_cases h3:eF c=true/\c.cells.length=1
      ·simp[C9,h1,h2,h3]
      ·simp[C9,h1,h2,h3]
    ·cases aq env z<;>simp[C9,h1,h2]
  ·cases aq env y<;>cases aq env z<;>simp[C9,h1]
def zn0{t t':Nat}{u u':V}{b:Bool}:C9 (some (.bf t u)) (some (.bf t' u')) (some (.bool b))=some (.agg (xK (.bf t u) (.bf t' u') b false)):=rfl
def zrf{gl:Nat->Nat->bS}{c:FuncId->aj->Hp->Option (Out×Hp)}{bs:List aN}{es:aC}{b:Nat}{l:List E}(hb:nth bs b=some (.cells [.sl 10 (bl l) .no] 25))(hl:l.length<=140737488355328):Cx.DN ⟨prog,gl,c,uR⟩ (Kv b) ⟨bs,es⟩=some (b,25,some (10,bl l),true):=by
 have bY:Hp.get ⟨bs,es⟩ b=some (.cells [.sl 10 (bl l) .no] 25):=hb;have hk:uR (yr 98 true 25)=true:=rfl;have dz:(bl l).all (λx=>nR x == true)=true:=by
  rw[Cf];intro x hx;obtain⟨i,hi⟩:=List.mem_iff_getElem?.1 hx;rw[rq] at hi;cases ha:l[i]? with
  | none=>rw[ha] at hi;cases hi
  | some a=>rw[ha] at hi;cases hi;rw[zV];rfl
 have hle:Nat.ble (bl l).length 140737488355328=true:=HK (by rw[aK];exact hl)
 have hbt:Nat.blt 25 1048576=true:=rfl;simp only[Cx.DN,Kv,bY,u25,C7,Jm,hk,Bool.true_or,pI,Bl,hbt,dz,hle];rfl
structure CI(e:E)(bs:List aN)(l:List E)(k:Nat)(H:List aN)(es:aC)(w:Wd)(v:V):Prop where
 new:dS (B1 e bs) H
 cell:nth H (bs.length+2)=some (.cells [v] 93)
 box:nth H (bs.length+3)=some (.cells [.sl 10 (bl l) .lock] 25)
 fo:fI (l.drop (l.length - k))=some w
 fP:∃hi,hi<=H.length/\At H w (bs.length+4) hi v
 ed:∀p∈es,bs.length<=p.1
 len:bs.length+4<=H.length
def zrg(hg:GW gl){n:Nat}{pl s0 s1 s2 s3 mn mx:Int}{tx:aR}{nl:Bool}{l:List E}{bs:List aN}{es:aC}(hn:1<=n)(AP:l≠[])(Ct:l.length<=2 ^ 40)(ih:∀a∈l,∀bs es,yN gl n a bs es):yN gl (n+1) (.mk 5 pl s0 s1 s2 s3 tx mn mx nl l) bs es:=by
 refine Ul (Uk hg (op:=5) rfl λenv aW e1 e2 Aq=>?_);generalize hE:E.mk 5 pl s0 s1 s2 s3 tx mn mx nl l=e;have Hs:aE e=[.int .i64 5,.int .i64 pl,.int .u64 s0,.int .u64 s1,.int .u64 s2,.int .u64 s3,.str tx,.int .i64 mn,.int .i64 mx,qS nl (bl l)]:=by rw[<- hE];rfl
 have AF:h_ e=fI l:=by rw[<- hE];simp only[h_];rfl
 have hB:(B1 e bs).length=bs.length+2:=Pm e bs;have Um:∀bs',dS (B1 e bs) bs'->∀es g,zA prog ⟨bs',es⟩ g 25 (.ptr bs.length 9)=some (qS nl (bl l)):=λbs' hN es g=>zM (H:=⟨bs',es⟩) LS ((hN.nth (by omega)).trans (Rh e bs)) (by rw[Hs];rfl)
 have hav:qS nl (bl l)=.sl 10 (bl l) .no:=by
  rcases kn nl (bl l) with h|⟨h,_⟩
  ·exact h
  ·cases l with
   | nil=>exact absurd rfl AP
   | cons a l=>simp[bl] at h
 have Xx:dS (B1 e bs) (B1 e bs++[aN.cells [.bf 127 (.agg [])] 93]):=(dS.refl _).push;have h67:∀bs es,Cx.cX ⟨prog,gl.g,zl prog gl n,uR⟩ 67 [qS nl (bl l)] ⟨bs,es⟩=some (.val (Kv bs.length),⟨bs++[.cells [qS nl (bl l)] 25],es⟩):=λbs es=>zR func67 rfl (by obtain⟨m,rfl⟩:∃m,n=m+1:=⟨n - 1,by omega⟩;exact e67 hg)
 have um:∀x:aN,Hp.get ⟨B1 e bs++[x],[]⟩ (bs.length+2)=some x:=λx=>by
  have:=Vm.lq (bs:=B1 e bs) (ls:=[x]) (es:=[])
  rwa [hB] at this
 have ab3:∀env:aj,qV prog 93 ⟨B1 e bs++[aN.cells [.bq] 93],[]⟩ [] [] (some (.bf 127 (.agg []),env)) (some (.ptr (bs.length+2) 0))=some (.skip,⟨env,⟨B1 e bs++[aN.cells [.bf 127 (.agg [])] 93],[]⟩,[],[]⟩):=λenv=>by
  rw[Xt (H:=⟨B1 e bs++[aN.cells [.bq] 93],[]⟩) (um _) rfl rfl rfl,qR rfl];have:=Vm.BD (bs:=B1 e bs) (ls:=[aN.cells [.bq] 93]) (es:=[]) (x:=aN.cells [.bf 127 (.agg [])] 93);rw[hB] at this;rw[this];rfl
 simp only[Es,Et,Hy,f45,tS,c1,c2,zc];refine ze ?_;simp only[zt,ah,zc,zE,zi,Nat.reduceEqDiff,aq,zh,aF,zv,zd,zn,au,aI,zB,zp,fK,zP,zY,aT,za,cI,Nat.reduceLT,aT,aZ,Aq,aW,qE,Int.reduceBEq,bH,pJ,Cg,fK]
 refine ze ?_;simp only[zt,ah,zc,zE,zi,Nat.reduceEqDiff,aq,zh,aF,zv,zd,zn,au,aI,zB,zp,fK,zP,zY,aT,za,cI,Nat.reduceLT,aT,aZ,Aq,aW,qE,beq_self_eq_true,Cz,pJ,fK,E1]
 refine ze ?_;simp only[zt,ah,zc,jf,zC,jd,Nat.reduceEqDiff,aq,zh,zd,au,bK,aI,vF,zu,cA,qc,aT,za,cI,Nat.reduceLT,aT,aZ,aW,hB,zjK,LR Jl,zql,qu,ab3]
 refine ze ?_;simp only[zt,ah,zU,zw,zj,jH,Nat.reduceEqDiff,bt,zQ,aq,zd,au,aI,zu,cG,cA,zq,a_,qn,fH,iC,Bm,oI,fY,List.length_nil,eM,HP,Nat.reduceAdd,nI,iQ,gF,aT,za,cI,Nat.reduceLT,aT,aZ,e1,aW,hB,pq,Um _ Xx,qg,h67]
 obtain⟨cz,⟨VV,Qp⟩,hz3⟩:=zqn (_env:=env) (_H:=⟨[],[]⟩) (_lk:=[]) (_df:=[]);obtain⟨HR,Uw⟩:∃HR,HR=B1 e bs++[aN.cells [V.bf 127 (V.agg [])] 93,aN.cells [qS nl (bl l)] 25]:=⟨_,rfl⟩;have hRl:HR.length=bs.length+4:=by rw[Uw];simp[hB]
 have hR2:nth HR (bs.length+2)=some (.cells [.bf 127 (.agg [])] 93):=by
  have:=Uc (bs:=B1 e bs) (x:=aN.cells [V.bf 127 (V.agg [])] 93) (y:=aN.cells [qS nl (bl l)] 25) (es:=[]);rw[hB] at this;rw[Uw];exact this
 have hR3:nth HR (bs.length+3)=some (.cells [.sl 10 (bl l) .no] 25):=by
  have:=Ub (bs:=B1 e bs) (x:=aN.cells [V.bf 127 (V.agg [])] 93) (y:=aN.cells [qS nl (bl l)] 25) (es:=[]);rw[hB] at this;rw[Uw,<- hav];exact this
 have hRn:dS (B1 e bs) HR:=⟨_,Uw,by simp[aN.isCells]⟩
 rw[<- Uw];have OC:(jk true (bl l)).length=l.length:=by simp[jk,aK]
 have hig:∀j x,(jk true (bl l))[j]?=some x->∃a,j<l.length/\l[l.length - 1 - j]?=some a/\x=[.int .i64 ((l.length - 1 - j:Nat):Int),enc a]:=λj x hx=>by
  simp only[jk,aT,pH,nq,aK] at hx;obtain⟨k,hk,rfl⟩:=hx;have hj:j<l.length:=by have:=(dW.1 hk).1;simpa using this
  rw[List.getElem?_range hj] at hk;cases hk;refine⟨l[l.length - 1 - j],hj,by simp,?_⟩
  rw[zf,rq,lB (by omega)]
  rfl
 try simp only[zU,zc]
 refine lP (λe=>e.length=125/\nth e 2=some (.ptr (bs.length+1) 0)/\nth e 3=some (.ptr (bs.length+2) 0)/\nth e 31=some (Kv (bs.length+3))) ⟨by simp[aW],by simp[za,e2],by simp[za,aW],by simp[za,aW]⟩ ?_
 clear e1 e2 Aq aW env;rintro env ⟨aW,e2,e3,e31⟩;refine zl8 (λk H E=>∃w v,CI e bs l k H E w v) (fv:=Kv (bs.length+3)) (by simp only[aq,e31];rfl) (zrf hR3 (by omega)) (by kernel_rfl) ?_ ?_ ?_
 ·refine⟨.mZ,.bf 127 (.agg []),?_,?_,?_,?_,?_,by simp,by simp[cE,hRl]⟩
  ·exact hRn.set (by omega)
  ·unfold cE;rw[z8 (by omega)];exact hR2
  ·unfold cE;rw[qw (by omega)]
  ·rw[Nat.sub_zero,List.drop_length];simp[fI]
  ·exact⟨bs.length+4,by simp[cE,hRl],bV _,rfl⟩
 ·rintro H E ⟨w,v,hC⟩;rw[OC] at hC;have ab4:fI l=some w:=by have:=hC.fo;rwa [G4,E0] at this
  have Ux:=hC.len;refine⟨⟨H.set (bs.length+3) (.cells [.sl 10 (bl l) .no] 25),E⟩,by simp only[iA,hC.box],?_⟩
  obtain⟨hi,r9,fP⟩:=hC.fP;obtain⟨t,u,rfl⟩:=fP.bf;have eS:nth (H.set (bs.length+3) (.cells [.sl 10 (bl l) .no] 25)) (bs.length+2)=some (.cells [.bf t u] 93):=by rw[z8 (by omega)];exact hC.cell
  have rR:nth (H.set (bs.length+3) (.cells [.sl 10 (bl l) .no] 25)) (bs.length+1)=some (.cells [.bq] 93):=by rw[z8 (by omega)];exact(hC.new.nth (by omega)).trans (Nb e bs)
  have lz:zA prog ⟨H.set (bs.length+3) (.cells [.sl 10 (bl l) .no] 25),E⟩ gl.g 93 (.ptr (bs.length+2) 0)=some (.bf t u):=zM (H:=⟨_,E⟩) mU eS rfl;have b8:∀(env:aj)(df:aV),qV prog 93 ⟨H.set (bs.length+3) (.cells [.sl 10 (bl l) .no] 25),E⟩ [] df (some (.bf t u,env)) (some (.ptr (bs.length+1) 0))=_:=λenv df=>LV rR rfl rfl rfl;simp only[wh,zc];have q2:=jz e2
  have q3:=jz e3;rw[zu] at q2 q3;refine lP (λe=>e.length=125/\nth e 2=some (.ptr (bs.length+1) 0)/\nth e 3=some (.ptr (bs.length+2) 0)) ⟨by simp[aW],q2,q3⟩ ?_
  clear aW e2 e3 e31 q2 q3 env;rintro env ⟨aW,e2,e3⟩;refine ze ?_;simp only[zt,ah,zw,zC,Nat.reduceEqDiff,aq,zh,zd,au,bK,aI,zu,cG,cA,aT,za,Nat.reduceLT,aT,aZ,e2,e3,aW,lz,qo,qu,b8]
  simp only[go_ret,zo,je,ky,Hz]
  refine⟨rfl,[.bf t u],Pk (v:=.bf t u) (b:=bs.length+1) (by simp[za,e2]) (qw (by simp;omega)),?_,y8 (b:=bs.length+1) (v:=.bf t u) hC.ed (by omega),?_⟩
  ·exact(((xp e bs).trans hC.new).set (by omega)).set (by omega)
  ·rw[AF,ab4];refine⟨hi,by simp;omega,(fP.frame λi p q=>?_).nw (by omega) (bV _)⟩
   rw[z8 (by omega),z8 (by omega)]
 ·rintro j x H E hx ⟨w,v,hC⟩;obtain⟨a,hj,ha,rfl⟩:=hig j x hx;have Ew:a∈l:=oH ha;have Ux:=hC.len;have q2:=jz e2;have q3:=jz e3;rw[zu] at q2 q3;refine lP (λe=>e.length=125/\nth e 2=some (.ptr (bs.length+1) 0)/\nth e 3=some (.ptr (bs.length+2) 0)/\nth e 33=some (enc a)) ⟨by simp[G8,aW],by simp[G8,za,q2],by simp[G8,za,q3],by simp[G8,za,aW,Pb]⟩ ?_
  clear q2 q3;rintro bB ⟨Jp,f2,f3,f33⟩;refine ze ?_;simp only[zt,ah,zc,zU,jf,zC,Nat.reduceEqDiff,aq,zh,au,bK,aI,zu,qc,aT,za,Nat.reduceLT,aT,aZ,f33,Jp,hz3,ziP,zqm VV Qp]
  have hN1:dS (B1 e bs) (H++[aN.cells (aE a) 27]):=hC.new.push;rw[zo]
  dsimp only
  refine⟨rfl,rfl,zg9 hN1 (by omega),?_⟩
  have p2:=jz f2;have p3:=jz f3;rw[zu] at p2 p3;refine lP (λe=>e.length=125/\nth e 2=some (.ptr (bs.length+1) 0)/\nth e 3=some (.ptr (bs.length+2) 0)/\nth e 5=some (.ptr H.length 0)) ⟨by simp[Jp],?_,?_,?_⟩ ?_
  ·exact jz (v:=.ptr (bs.length+1) 0) (by simp[za,f2])
  ·exact jz (v:=.ptr (bs.length+2) 0) (by simp[za,f3])
  ·exact jz (v:=.ptr H.length 0) (by simp[za,Jp])
  clear p2 p3 f2 f3 f33 Jp bB;rintro bB ⟨Jp,f2,f3,f5⟩;obtain⟨v',bs',fJ,Bx,hN,Bt,fG⟩:=ih a Ew (H++[aN.cells (aE a) 27]) [];have dQ:Cx.cX ⟨prog,gl.g,zl prog gl n,uR⟩ 45 [enc a] ⟨H++[aN.cells (aE a) 27],[]⟩=some (.val v',⟨bs',fJ++[]⟩):=zR func45 rfl Bx;rw[uf] at dQ;have FD:dS H bs':=(dS.push (dS.refl H)).trans hN;have hHb:=hN.len
  have aqF:H.length+1<=bs'.length:=by simpa using hHb
  have Po:∀p∈fJ,bs.length<=p.1:=λp hp=>by have:=Bt p hp;simp at this;omega
  have XB:dS (B1 e bs) bs':=hC.new.trans FD;have Ez:nth bs' (bs.length+1)=some (.cells [.bq] 93):=(XB.nth (by omega)).trans (Nb e bs)
  have Jq:nth bs' (bs.length+2)=some (.cells [v] 93):=(FD.nth (by omega)).trans hC.cell
  have Nc:nth bs' (bs.length+3)=some (.cells [.sl 10 (bl l) .lock] 25):=(FD.nth (by omega)).trans hC.box
  have Fk:l.drop (l.length - (j+1))=a::l.drop (l.length - j):=by
   have hx:l.length - (j+1)<l.length:=by omega
   rw[J6 hx];have e0:l.length - (j+1)=l.length - 1 - j:=by omega
   have e1:l.length - (j+1)+1=l.length - j:=by omega
   rw[e1];have:l[l.length - (j+1)]=a:=by
    have h5:l[l.length - (j+1)]?=some a:=by rw[e0];exact ha
    rw[lB hx] at h5;exact tU h5
   rw[this]
  try simp only[zc,zU]
  refine ze ?_;simp only[zt,ah,zc,zw,zi,jH,Nat.reduceEqDiff,bt,zQ,aq,zh,zd,au,aI,zu,cG,cA,qn,fH,iC,Bm,gF,aT,za,cI,Nat.reduceLT,aT,aZ,f5,Jp,zsb,Pb,dQ]
  cases hw:h_ a with
  | none =>
   rw[hw] at fG;simp only[Pj] at fG;subst fG;have su:fI l=none:=uV l (l.length - (j+1)) (by rw[Fk];simp only[fI,hC.fo,hw])
   have Un:∀env t,jj env t (some V.bq)=some (.bq,env):=λ_ _=>rfl;simp only[Un,zn,au,aI];have b8:∀env:aj,qV prog 93 ⟨bs',fJ⟩ [] [] (some (.bq,env)) (some (.ptr (bs.length+1) 0))=some (.skip,⟨env,⟨bs',tM (bs.length+1) .bq fJ⟩,[],[]⟩):=λenv=>by rw[LV Ez rfl rfl rfl,Xa Ez]
   refine ze ?_;simp only[zt,ah,zc,bC,zr,zE,Nat.reduceEqDiff,aq,aF,zd,au,aI,zp,fK,zP,zY,aT,za,cI,Nat.reduceLT,aT,aZ,Jp,iK,zg7,Cz,fK,pJ,E1]
   refine ze ?_;simp only[zt,ah,zC,Nat.reduceEqDiff,aq,zH,aF,bK,aI,zu,cA,aT,za,cI,Nat.reduceLT,aT,aZ,f2,Jp,b8]
   simp only[go_ret,zo,je,ky]
   have hE3:∀p∈tM (bs.length+1) .bq fJ++E,bs.length<=p.1:=λp hp=>by
    rcases rO.1 hp with hp|hp
    ·exact y8 (b:=bs.length+1) (v:=.bq) Po (by omega) p hp
    ·exact hC.ed p (by simpa using hp)
   refine⟨trivial,zg9 XB (by omega),.inr ⟨trivial,⟨bs'.set (bs.length+3) (.cells [.sl 10 (bl l) .no] 25),tM (bs.length+1) .bq fJ++E⟩,by simp only[iA,Nc],?_⟩⟩
   exact Xu (jz (v:=.ptr (bs.length+1) 0) e2) rfl ((z8 (by omega)).trans Ez) (((xp e bs).trans XB).set (by omega)) hE3 (by rw[AF,su])
  | some x =>
   rw[hw] at fG;obtain⟨t,u,rfl⟩:=fG.bf;obtain⟨tF,RY,ab5⟩:=fG;simp only[qu,zn,au,aI];refine ze ?_;simp only[zt,ah,zc,bC,zr,zE,Nat.reduceEqDiff,aq,aF,zd,au,aI,zp,fK,zP,zY,aT,za,cI,Nat.reduceLT,aT,aZ,Jp,qo,zg6,bH,fK,pJ,Cg]
   obtain⟨hi,r9,fP⟩:=hC.fP;obtain⟨t',u',rfl⟩:=fP.bf;have Uy:At bs' w (bs.length+4) hi (.bf t' u'):=fP.frame λi p q=>FD.nth (by omega)
   have Nd:At bs' x (H.length+1) tF (.bf t u):=by simpa using ab5
   have sB:zA prog ⟨bs',fJ⟩ gl.g 93 (.ptr (bs.length+2) 0)=some (.bf t' u'):=zM (H:=⟨bs',fJ⟩) mU Jq rfl;have AG:=λenv=>jV (lk:=[]) (df:=[]) (env:=env) (M9 hg Nd (n:=n) hn fJ);have Pr:=λenv=>jV (lk:=[]) (df:=[]) (env:=env) (M9 hg Uy (n:=n) hn fJ);rw[hg.uq] at AG Pr;obtain⟨B,tw⟩:∃B,B=xK (.bf t u) (.bf t' u') (gJ x && gJ w) false:=⟨_,rfl⟩
   have pK:nth (bs'++[aN.cells B 133]) (bs.length+2)=some (.cells [.bf t' u'] 93):=(kV (es:=[]) (by omega)).trans Jq
   have b8:∀env:aj,qV prog 93 ⟨bs'++[aN.cells B 133],fJ⟩ [] [] (some (.bf 131 (.ptr bs'.length 0),env)) (some (.ptr (bs.length+2) 0))=_:=λenv=>LV pK rfl rfl rfl;have Fy:(V.agg B).laid=B:=by rw[tw];rfl
   have F1:eF (V.agg B)=true:=rfl;have fin:∀env:aj,(True/\jp HR.length ((bs'++[aN.cells B 133]).set (bs.length+2) (.cells [.bf 131 (.ptr bs'.length 0)] 93))=true/\(True/\∃w v,CI e bs l (j+1) ((bs'++[aN.cells B 133]).set (bs.length+2) (.cells [.bf 131 (.ptr bs'.length 0)] 93)) (tM (bs.length+2) (.bf 131 (.ptr bs'.length 0)) fJ++E) w v)):=λenv=>by
    have QY:dS (B1 e bs) ((bs'++[aN.cells B 133]).set (bs.length+2) (.cells [.bf 131 (.ptr bs'.length 0)] 93)):=(XB.push).set (by omega)
    refine⟨trivial,zg9 QY (by omega),trivial,zqo x w,.bf 131 (.ptr bs'.length 0),QY,qw (by simp;omega),?_,?_,?_,?_,by simp;omega⟩
    ·rw[z8 (by omega)];exact(kV (es:=[]) (by omega)).trans Nc
    ·rw[Fk];simp only[fI,hC.fo,hw,zqo]
    ·refine⟨bs'.length+1,by simp,bs'.length,hi,tF,.bf t u,.bf t' u',?_,?_,by omega,by omega,rfl,?_⟩
     ·exact Uy.frame λi p q=>(z8 (by omega)).trans (kV (es:=[]) (by omega))
     ·exact(Nd.frame λi p q=>(z8 (by omega)).trans (kV (es:=[]) (by omega))).nw (by omega) (bV _)
     ·rw[z8 (by omega)]
      have:=Vm.lq (bs:=bs') (ls:=[aN.cells B 133]) (es:=[]);rw[tw] at this ⊢;exact this
    ·intro p hp;rcases rO.1 hp with hp|hp
     ·exact y8 (b:=bs.length+2) (v:=.bf 131 (.ptr bs'.length 0)) Po (by omega) p hp
     ·exact hC.ed p (by simpa using hp)
   cases hx:gJ x with
   | true =>
    rw[hx] at AG tw;simp only[ug] at tw;rw[tw] at b8 Fy F1 fin
    refine vZ [1] [] [(false,false,false,false),(true,false,false,false),(false,false,false,false),(false,true,false,false),(false,false,false,false),(false,false,false,false),(false,true,false,false),(false,false,false,false),(false,false,false,false),(false,true,false,true),(false,false,false,false),(false,true,false,true)] (tk:=[]) (by kernel_rfl) (by kernel_rfl) ?_
    simp only[wh,zr,zw,wb,zC,qD,jd,Nat.reduceEqDiff,bt,aq,zh,aF,qt,zd,aI,zp,zu,cG,cA,fK,qc,fW,aT,qZ,za,cI,Nat.reduceLT,aT,aZ,l7,Q8,zF,zb,zg,qa,fq,kZ,oh,l8,iP,om,mS,kA,wo,jU,jy,mU,f3,Jp,sB,qo,zW,AG,Pr,qZ,znZ,zn0,qQ F1,Fy,LR M_,qu,qt,b8]
    have Dt:aq ((((((bB.set 34 (enc a)).set 35 (V.bf t u)).set 6 (V.bf t u)).set 36 (V.bf t u)).set 37 (V.bool false)).set 38 (V.bf t u)) (.tmp 3)=some (.ptr (bs.length+2) 0):=by simp[aq,za,f3,aX]
    refine⟨⟨q6 Dt sB rfl,trivial⟩,⟨q6 Dt sB rfl,trivial⟩,?_⟩;rw[zo]
    dsimp only
    exact⟨rfl,(fin []).2.1,.inl ⟨rfl,(fin []).2.2.2⟩⟩
   | false =>
    rw[hx] at AG tw;simp only[G3] at tw;rw[tw] at b8 Fy F1 fin
    refine vZ [1] [] [(false,false,false,false),(true,false,false,false),(false,false,false,false),(false,true,false,false),(false,false,false,false),(false,false,false,false),(false,true,false,false),(false,false,false,false),(false,false,false,false),(false,true,false,true),(false,false,false,false),(false,true,false,true)] (tk:=[]) (by kernel_rfl) (by kernel_rfl) ?_
    simp only[wh,zr,zw,wb,zC,qD,jd,Nat.reduceEqDiff,bt,aq,zh,aF,qt,zd,aI,zp,zu,cG,cA,fK,qc,fW,aT,q5,za,cI,Nat.reduceLT,aT,aZ,l7,Q8,zF,zb,zg,qa,lQ,yh,oh,l8,iP,om,mS,kA,wo,jU,jy,mU,f3,Jp,sB,qo,zW,AG,Pr,q5,znZ,zn0,qQ F1,Fy,LR M_,qu,qt,b8]
    have Dt:aq ((((((bB.set 34 (enc a)).set 35 (V.bf t u)).set 6 (V.bf t u)).set 36 (V.bf t u)).set 37 (V.bool false)).set 38 (V.bf t u)) (.tmp 3)=some (.ptr (bs.length+2) 0):=by simp[aq,za,f3,aX]
    refine⟨⟨q6 Dt sB rfl,trivial⟩,?_⟩;rw[zo]
    dsimp only
    exact⟨rfl,(fin []).2.1,.inl ⟨rfl,(fin []).2.2.2⟩⟩
end
section
open Go.Vm.Sx
variable{gl:Gl}
mutual
def AH:E->Prop
 | .mk op pl s0 s1 s2 s3 text mn mx nl args=>mT (.mk op pl s0 s1 s2 s3 text mn mx nl args)=true/\fX (.mk op pl s0 s1 s2 s3 text mn mx nl args)=true/\args.length<=65536/\oq args
def oq:List E->Prop
 | []=>True
 | a::l=>AH a/\oq l
end
mutual
def Rg:E->Prop
 | .mk _ _ s0 s1 s2 s3 _ _ _ _ args=>lS (s0,s1,s2,s3)/\AJ args
def AJ:List E->Prop
 | []=>True
 | a::l=>Rg a/\AJ l
end
def v4(e:E):Bool:=(dg e 1 0 0).1
mutual
def pM:∀(e:E)(d n s:Int),0<=n->n<=65536->(dg e d n s).1=true->AH e/\n+1<=(dg e d n s).2.1/\(dg e d n s).2.1<=65536
 | .mk op pl s0 s1 s2 s3 text mn mx nl args,d,n,s,h0,h1,h=>by
  have hw:IntKind.i64.wrap (n+1)=n+1:=by rw[Gv (by omega) (by omega)]
  simp only[dg,hw] at h ⊢;cases hc:(gh 65536 (n+1) || gh 4096 d) with
  | true=>simp[hc] at h
  | false =>
   have hn:n+1<=65536:=by
    simp only[KD] at hc;have:=hc.1;simp only[gh,decide_eq_false_iff_not] at this;omega
   simp only[hc,bH,aZ] at h ⊢;cases hl:mT (.mk op pl s0 s1 s2 s3 text mn mx nl args) with
   | false=>simp[hl] at h
   | true =>
    cases hk:fX (.mk op pl s0 s1 s2 s3 text mn mx nl args) with
    | false=>simp[hl,hk] at h
    | true =>
     simp only[hl,hk,aT] at h ⊢;obtain⟨g1,g2,g3⟩:=pF args _ (n+1) _ (by omega) hn h
     exact⟨⟨hl,hk,by omega,g1⟩,by omega,g3⟩
def pF:∀(l:List E)(d n s:Int),0<=n->n<=65536->(eE d l n s).1=true->oq l/\n+(l.length:Int)<=(eE d l n s).2.1/\(eE d l n s).2.1<=65536
 | [],d,n,s,h0,h1,h=>by simp only[eE];exact⟨trivial,by simp,h1⟩
 | a::l,d,n,s,h0,h1,h=>by
  simp only[eE] at h ⊢;cases ha:(dg a d n s).1 with
  | false=>rw[ha] at h;simp[ha] at h
  | true =>
   simp only[ha,aT] at h ⊢;obtain⟨g1,g2,g3⟩:=pM a d n s h0 h1 ha;obtain⟨k1,k2,k3⟩:=pF l d _ _ (by omega) g3 h
   exact⟨⟨g1,k1⟩,by simp only[fY];omega,k3⟩
end
def Rj{e:E}(h:v4 e=true):AH e:=(pM e 1 0 0 (by decide) (by decide) h).1
def oq.mem{a:E}:∀{l:List E},oq l->a∈l->AH a
 | b::l,h,hm=>by
  rcases cS.1 hm with rfl|hm
  ·exact h.1
  ·exact h.2.mem hm
def AJ.mem{a:E}:∀{l:List E},AJ l->a∈l->Rg a
 | b::l,h,hm=>by
  rcases cS.1 hm with rfl|hm
  ·exact h.1
  ·exact h.2.mem hm
def zn1(hg:GW gl):∀(N:Nat)(e:E),YtlnijcffanjieaaGreatDoor.hg e<=N->AH e->∀n,N<=n->∀bs es,yN gl (n+1) e bs es
 | 0,e,h,hc,n,hn,bs,es=>by cases e;simp only[YtlnijcffanjieaaGreatDoor.hg] at h;omega
 | N+1,.mk op pl s0 s1 s2 s3 text mn mx nl args,h,hc,n,hn,bs,es=>by
  simp only[YtlnijcffanjieaaGreatDoor.hg] at h;obtain⟨_,hk,hlen,dA⟩:=hc;have ih:∀a∈args,∀bs es,yN gl n a bs es:=λa ha bs es=>by
   obtain⟨m,rfl⟩:∃m,n=m+1:=⟨n - 1,by omega⟩
   have:=xI ha;exact zn1 hg N a (by omega) (dA.mem ha) m (by omega) bs es
  by_cases h2:op=2
  ·subst h2;exact zra hg
  by_cases h5:op=5
  ·subst h5;refine zrg hg (by omega) (λe=>?_) (by omega) ih
   subst e;simp[fX,gh] at hk
  by_cases h6:op=6
  ·subst h6;exact zrd hg (by omega) (by omega) ih
  by_cases h7:op=7
  ·subst h7;cases args with
   | nil=>simp[fX] at hk
   | cons a l=>exact zrb hg (by omega) (ih a (by simp))
  ·refine zpv hg (op:=op) rfl h2 h5 h6 h7 ?_;simp only[h_,h2,h5,h6,h7,aZ]
def C_:∀(l:List E)(w:Wd)(m:Nat),(∀a∈l,∀x,h_ a=some x->FW x<=m)->fI l=some w->FW w<=m+2 * l.length+1
 | [],w,m,_,h=>by simp only[fI,aO] at h;subst h;simp only[FW];omega
 | a::l,w,m,hm,h=>by
  simp only[fI] at h;split at h<;>try (cases h;done)
  rename_i w' x h1 h2;cases h;have g1:=C_ l w' m (λb hb=>hm b (cZ _ hb)) h1;have g2:=hm a (ew ..) x h2;simp only[FW,fY];omega
def uW:∀(l:List E)(m:Nat),(∀a∈l,∀x,h_ a=some x->FW x<=m)->Eo (cQ l)<=m/\(cQ l).length<=l.length
 | [],m,_=>by simp[cQ,Eo]
 | a::l,m,hm=>by
  obtain⟨g1,g2⟩:=uW l m λb hb=>hm b (cZ _ hb);simp only[cQ];cases ha:h_ a with
  | none=>simp only[fY];omega
  | some x =>
   have:=hm a (ew ..) x ha;simp only[Eo,fY];omega
def BX:∀(N:Nat)(e:E)(w:Wd),YtlnijcffanjieaaGreatDoor.hg e<=N->h_ e=some w->FW w<=2 * YtlnijcffanjieaaGreatDoor.hg e
 | 0,e,w,h,_=>by cases e;simp only[YtlnijcffanjieaaGreatDoor.hg] at h;omega
 | N+1,.mk op pl s0 s1 s2 s3 text mn mx nl args,w,h,hw=>by
  simp only[YtlnijcffanjieaaGreatDoor.hg] at h ⊢;have hm:∀a∈args,∀x,h_ a=some x->FW x<=2 * (Q9 args):=λa ha x hx=>by
   have h1:=xI ha;have:=BX N a x (by omega) hx
   omega
  simp only[h_] at hw;split at hw
  ·split at hw
   ·cases hw
   ·cases hw;simp only[FW];omega
  ·split at hw
   ·have:=C_ args w _ hm hw;omega
   ·split at hw
    ·split at hw
     ·cases hw
     ·cases hw;obtain⟨g1,g2⟩:=uW args _ hm;simp only[FW];omega
    ·split at hw
     ·cases args with
      | nil =>
       simp only[mz] at hw;split at hw
       ·cases hw
       ·cases hw;simp only[FW];omega
      | cons a l =>
       simp only[mz] at hw;split at hw
       ·rename_i x hx;cases hw;have:=hm a (by simp) x hx
        simp only[FW];omega
       ·split at hw
        ·cases hw
        ·cases hw;simp only[FW];omega
     ·cases hw;simp only[FW];omega
def C':∀(l:List E)(w:Wd),(∀a∈l,∀x,h_ a=some x->Ap x)->fI l=some w->Ap w
 | [],w,_,h=>by simp only[fI,aO] at h;subst h;trivial
 | a::l,w,hm,h=>by
  simp only[fI] at h;split at h<;>try (cases h;done)
  rename_i w' x h1 h2;cases h;exact⟨hm a (ew ..) x h2,C' l w' (λb hb=>hm b (cZ _ hb)) h1⟩
def Da:∀(l:List E),(∀a∈l,∀x,h_ a=some x->Ap x)->sL (cQ l)
 | [],_=>by simp[cQ,sL]
 | a::l,hm=>by
  have g:=Da l λb hb=>hm b (cZ _ hb);simp only[cQ];cases ha:h_ a with
  | none=>exact g
  | some x=>exact⟨hm a (ew ..) x ha,g⟩
def BY:∀(N:Nat)(e:E)(w:Wd),YtlnijcffanjieaaGreatDoor.hg e<=N->AH e->Rg e->h_ e=some w->Ap w
 | 0,e,w,h,_,_,_=>by cases e;simp only[YtlnijcffanjieaaGreatDoor.hg] at h;omega
 | N+1,.mk op pl s0 s1 s2 s3 text mn mx nl args,w,h,hc,hr,hw=>by
  simp only[YtlnijcffanjieaaGreatDoor.hg] at h;have hm:∀a∈args,∀x,h_ a=some x->Ap x:=λa ha x hx=>by
   have h1:=xI ha;exact BY N a x (by omega) (hc.2.2.2.mem ha) (hr.2.mem ha) hx
  simp only[h_] at hw;split at hw
  ·split at hw
   ·cases hw
   ·cases hw;exact hr.1
  ·split at hw
   ·exact C' args w hm hw
   ·split at hw
    ·split at hw
     ·cases hw
     ·cases hw;refine⟨Da args hm,?_⟩;have:=(uW args (Eo (cQ args)+2 * Q9 args+9) (λa ha x hx=>by have h1:=xI ha;have:=BX (YtlnijcffanjieaaGreatDoor.hg a) a x (bV _) hx;omega)).2
      have:=hc.2.2.1;omega
    ·split at hw
     ·cases args with
      | nil =>
       simp only[mz] at hw;split at hw
       ·cases hw
       ·cases hw;trivial
      | cons a l =>
       simp only[mz] at hw;split at hw
       next x hx=>cases hw;exact hm a (by simp) x hx
       ·split at hw
        ·cases hw
        ·cases hw;trivial
     ·cases hw;trivial
end
section
variable{gl:Gl}
def zI(nl:Bool)(t:aR):V:=Sx.lv 1 nl (t.map λb=>V.int .u8 (b:Nat))
def XC:jI prog 5=some false:=by kernel_rfl
def sz5:z9 prog 5=some 1:=by kernel_rfl
def Jr:C4 prog 36 3 1 8:=⟨by kernel_rfl,by kernel_rfl,by kernel_rfl,by decide,by kernel_rfl,by kernel_rfl,by kernel_rfl⟩
def zS{nl:Bool}{t:aR}:aX (zI nl t)=zI nl t:=Sx.BN ..
def xL{H:Hp}{nl:Bool}{t:aR}:jM prog H 34 (zI nl t)=some (t.length:Int):=by
 rcases Sx.gr 1 nl (t.map λb=>V.int .u8 (b:Nat)) with h|⟨h0,h⟩<;>rw[zI,h]
 ·simp[jM]
 ·have:t=[]:=by simpa using h0
  subst this;simp[jM]
def zn2{nl:Bool}{t:aR}{k b:Nat}(h:t[k]?=some b):zO prog 34 (zI nl t) (k:Int)=some (.vp [.int .u8 (b:Nat)]):=by
 have hk:¬((k:Int)<0):=by omega
 have hn:nth (t.map λb=>V.int .u8 (b:Nat)) k=some (.int .u8 (b:Nat)):=by rw[zf,pH,h];rfl
 rcases Sx.gr 1 nl (t.map λb=>V.int .u8 (b:Nat)) with h'|⟨h0,_⟩
 ·rw[zI,h'];simp[zO,sz5,hk,hn,V.cells]
 ·rw[h0] at hn;simp[nth] at hn
def Rk{H:Hp}{g:Nat->Nat->bS}{v:V}:zA prog H g 5 (.vp [v])=some v:=by simp[zA,kL,XC,nth,Kk]
def eu:Wd->Nat->aR->aR
 | _,_,[]=>[]
 | w,i,b::t=>(if (fu w (i == 0) b).2 then [i+1] else [])++eu (fu w (i == 0) b).1 (i+1) t
def mV:Wd->Nat->aR->Wd
 | w,_,[]=>w
 | w,i,b::t=>mV (fu w (i == 0) b).1 (i+1) t
def vm(w:Wd)(t:aR):aR:=(if gJ w then [0] else [])++eu w 0 t
def A_:∀(N:Nat)(w:Wd)(bg:Bool)(c:Nat),FW w<=N->FW (fu w bg c).1=FW w
 | 0,w,bg,c,h=>by have:=Ph w;omega
 | N+1,.mZ,_,_,_=>by simp only[fu]
 | N+1,.one _ _,_,_,_=>by simp only[fu,FW]
 | N+1,.both a b _ _,bg,c,h=>by simp only[FW] at h;simp only[fu,FW,A_ N a _ c (by omega),A_ N b _ c (by omega)]
 | N+1,.alt l _ _,bg,c,h=>by
  simp only[FW] at h;simp only[fu,FW,uU,oO];have:∀l:List Wd,Eo l<=N->Eo (l.map λw=>(fu w bg c).1)=Eo l:=by
   intro l
   induction l with
   | nil=>intro _;rfl
   | cons x l ih =>
    intro hl;simp only[Eo] at hl;simp only[iC,Eo,A_ N x bg c (by omega),ih (by omega)]
  rw[this l (by omega)]
 | N+1,.rep w _ _,bg,c,h=>by simp only[FW] at h;simp only[fu,FW,A_ N w _ c (by omega)]
def uX:∀(N:Nat)(w:Wd)(bg:Bool)(c:Nat),FW w<=N->Ap w->Ap (fu w bg c).1
 | 0,w,bg,c,h,_=>by have:=Ph w;omega
 | N+1,.mZ,_,_,_,h=>by simp only[fu];exact h
 | N+1,.one _ _,_,_,_,h=>by simp only[fu];exact h
 | N+1,.both a b _ _,bg,c,h,hr=>by simp only[FW] at h;simp only[fu];exact⟨uX N a _ c (by omega) hr.1,uX N b _ c (by omega) hr.2⟩
 | N+1,.alt l _ _,bg,c,h,hr=>by
  simp only[FW] at h;simp only[fu,uU];have:∀l:List Wd,Eo l<=N->sL l->sL (l.map λw=>(fu w bg c).1):=by
   intro l
   induction l with
   | nil=>intro _ _;trivial
   | cons x l ih =>
    intro hl hq;simp only[Eo] at hl;exact⟨uX N x bg c (by omega) hq.1,ih (by omega) hq.2⟩
  exact⟨this l (by omega) hr.1,by rw[oO];exact hr.2⟩
 | N+1,.rep w _ _,bg,c,h,hr=>by simp only[FW] at h;simp only[fu];exact uX N w _ c (by omega) hr
def kD(l:aR):aj:=l.map λn=>V.int .i64 (n:Nat)
end
section
variable{gl:Gl}
def zqp{v:V}(h:eF v=true)(h2:v.cells.length=1):OZ prog 36 (some v)=some (.sl 1 [v] (.yes 3)):=Jr.bsl h h2
end
section
open Go.Vm.Sx
mutual
def Can:E->Prop
 | .mk _ _ _ _ _ _ _ _ _ nl args=>(nl=true->args=[])/\sN args
def sN:List E->Prop
 | []=>True
 | e::l=>Can e/\sN l
end
def zn3{nl nl':Bool}{a b:aj}(h1:nl=true->a=[])(h2:nl'=true->b=[])(h:qS nl a=qS nl' b):a=b/\nl=nl':=by
 unfold qS at h;cases nl with
 | true =>
  have:=h1 rfl;subst this;cases nl' with
  | true=>exact⟨(h2 rfl).symm,rfl⟩
  | false=>simp at h
 | false =>
  cases nl' with
  | true =>
   have:=h2 rfl;subst this;simp at h
  | false =>
   simp only[G3,bH,aZ] at h;injection h with _ h;exact⟨h,rfl⟩
mutual
def l_:∀(e e':E),Can e->Can e'->enc e=enc e'->e=e'
 | .mk op pl s0 s1 s2 s3 tx mn mx nl args,.mk An DB DC DD DE DF tx' DG DH nl' dU,h,h',he=>by
  simp only[enc] at he;injection he with he;simp only[rZ,V.int.injEq,V.str.injEq,fK,r8] at he;obtain⟨e1,e2,e3,e4,e5,e6,e7,e8,e9,Gz⟩:=he;obtain⟨f1,f2⟩:=zn3 (λhn=>by rw[h.1 hn];rfl) (λhn=>by rw[h'.1 hn];rfl) Gz
  have:=Db args dU h.2 h'.2 f1;subst e1 e2 e3 e4 e5 e6 e7 e8 e9 f2 this;rfl
def Db:∀(l l':List E),sN l->sN l'->bl l=bl l'->l=l'
 | [],[],_,_,_=>rfl
 | [],_::_,_,_,h=>by simp[bl] at h
 | _::_,[],_,_,h=>by simp[bl] at h
 | a::l,b::l',h,h',he=>by
  simp only[bl,rZ] at he;rw[l_ a b h.1 h'.1 he.1,Db l l' h.2 h'.2 he.2]
end
end
end Go.Proofs.YtlnijcffanjieaaGreatDoor
