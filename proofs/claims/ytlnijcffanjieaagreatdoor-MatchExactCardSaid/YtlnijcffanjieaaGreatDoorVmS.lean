/- Seat 7: which error: what fault.Tell tells, known. Conditions: none but those named. -/
import Derived.Test.YtlnijcffanjieaaGreatDoorVmI
import Derived.Test.YtlnijcffanjieaaGreatDoorVmR
set_option linter.defProp false
namespace Go.Proofs.YtlnijcffanjieaaGreatDoor
open Go Go.Vm
open Go.Proofs.Tryz
set_option maxRecDepth 100000
section
open Go.RowKit Go.ChangeAt Go.WideShapes
set_option maxRecDepth 1000000
def RP:Nat×aj:=(3,[.bf 266 (.agg [.gj 18 38])])
def L7:Nat->Nat->bS:=Q4 373 ks [RP]
def U1{k off:Nat}{v:V}(h:AD k off=some v):L7 k off=some v:=by
 have h':=h;unfold AD Lb at h';split at h'
 ·rename_i hk;have h3:Nat.beq k 3=false:=by
   cases hb:Nat.beq k 3 with
   | false=>rfl
   | true =>
    have:=eT hb;subst this;revert hk;simp[ks]
  unfold L7 Q4 OW RP;simp only[h3,OW];exact h
 ·cases h'
def Rv{g:Gh}(h:gv prog L7 g):gv prog AD g :=
 ⟨λk off v hv=>h.1 k off v (U1 hv),λk U j hv=>⟨(h.2 k U j (U1 hv)).1,λk' U' j' cP e=>(h.2 k U j (U1 hv)).2 k' U' j' (U1 cP) e⟩⟩
def zsy(f:FuncId)(args:aj):bS:=if Nat.beq f 104 then match args with
 | [.bf 373 (.obj i),.bf 373 (.obj j)]=>if ks.any (Nat.beq i) && ks.any (Nat.beq j) then some (.bool (Nat.beq i j)) else none
 | _=>none else none
def zsz(_:Nat)(f:FuncId)(args:aj)(H:Hp):Option (Out×Hp):=if Nat.beq f 88 then match args with
 | [.bf 373 (.obj _),.bf tt (.ptr _ _)]=>if Nat.beq tt 166 || Nat.beq tt 170 || Nat.beq tt 175 || Nat.beq tt 179 then some (.ret (.bool false),H) else none
 | _=>none else none
def L8:Gl:={ g:=L7,hk:=zsy,fB:=zsz }
def zoo{k:Nat}(h:ks.any (Nat.beq k)=true):L7 k 0=some (.bf 373 (.obj k)):=by
 refine U1 ?_;simp only[AD,Lb,h];rfl
def s5{g:Gh}{n:Nat}{a b:V}{aM:cO}(h:dG g n [a,b] aM):∃x y,aM=#[x,y]/\aL g a x/\aL g b y:=by
 obtain⟨l⟩:=aM;have:=h.len
 match l,this with
 | [x,y],_=>exact⟨x,y,rfl,h.rel 0 a x rfl rfl,h.rel 1 b y rfl rfl⟩
def hkE:nW prog L8:=by
 refine⟨λf args v h d H g w aM lc h1 h2 h3=>?_,λn f args H out H' h d hd g w aM lc h1 h2 h3=>?_,λ_ _ _ _ h=>(by cases h)⟩
 ·simp only[L8,zsy] at h;split at h
  ·rename_i hf;obtain rfl:f=104:=eT hf;split at h
   ·rename_i i j;split at h
    ·rename_i hk;simp only[bN] at hk;cases h;obtain⟨x,y,rfl,r1,r2⟩:=s5 h3;cases r1 with
     | bf r1=>cases r2 with
      | bf r2=>cases r1 with
       | obj _=>cases r2 with
        | obj _ =>
         have hA:=ZK (d:=d) h2 (Below.refl w.heap.size w);cases Dv:Nat.beq i j with
         | true =>
          obtain rfl:=eT Dv;refine Calls.mono (zpo (g.obj i) w) λe w' he=>?_;obtain⟨rfl,rfl⟩:=he;exact⟨_,g,rfl,hA,.bool true,trivial,dJ _⟩
         | false =>
          obtain⟨k1,k2⟩:=h1.2 i 373 i (zoo hk.1);obtain⟨k3,k4⟩:=h1.2 j 373 j (zoo hk.2);have cg:g.obj i≠g.obj j:=λe=>by
           have:=k2 j 373 j (zoo hk.2) e;subst this;simp at Dv
          obtain⟨⟨xs,t,l1⟩,_⟩:=h2.laid _ k1;obtain⟨⟨ys,t',l2⟩,_⟩:=h2.laid _ k3;refine Calls.mono (znJ (g.obj i) (g.obj j) xs ys t t' w cg l1 l2) λe w' he=>?_;obtain⟨rfl,rfl⟩:=he;exact⟨_,g,rfl,hA,.bool false,trivial,dJ _⟩
    ·cases h
   ·cases h
  ·cases h
 ·simp only[L8,zsz] at h;split at h
  ·rename_i hf;obtain rfl:f=88:=eT hf;split at h
   ·rename_i i tt b o;split at h
    ·rename_i hk;cases h;obtain⟨x,y,rfl,r1,r2⟩:=s5 h3;obtain⟨cv,m1,m2,_⟩:=h1.1 3 0 (.bf 266 (.agg [.gj 18 38])) rfl;have hc:cv=.iface 266 (.agg #[.pointer (some ⟨18,38,none⟩)]):=by
      cases m2 with
      | bf m=>cases m with
       | agg e1 e2 e3 =>
        rename_i arr;obtain⟨l⟩:=arr
        match l,e1 with
        | [z],_ =>
         have:=e3 0 _ z rfl rfl;cases this;rfl
     subst hc;have eS:=h2.mem 3 0 _ m1;have hF:Hx 166 164/\Hx 170 169/\Hx 175 174/\Hx 179 178:=⟨O5,O6,O7,O8⟩;have main:∀tt te,Hx tt te->aL g (.bf tt (.ptr b o)) y->Calls prog 88 #[x,y] w (dP d H g w lc (.ret (.bool false)) H):=λtt te F q2=>by
      clear r2;cases r1 with
      | bf r1=>cases q2 with
       | bf q2=>cases r1 with
        | obj _=>cases q2 with
         | ptr _ _ =>
          refine Calls.mono (zpp F (g.obj i) _ w eS) λe w' he=>?_;obtain⟨rfl,rfl⟩:=he;refine⟨_,g,rfl,ZK h2 ?_,.bool false,trivial,dJ _⟩;exact(((Below.refl _ w).alloc (bV _) _).alloc (by simp) _).alloc (by simp;omega) _
     simp only[gZ] at hk;rcases hk with((hk|hk)|hk)|hk
     all_goals (have hh:=eT hk;subst hh)
     ·exact main _ _ hF.1 r2
     ·exact main _ _ hF.2.1 r2
     ·exact main _ _ hF.2.2.1 r2
     ·exact main _ _ hF.2.2.2 r2
    ·cases h
   ·cases h
  ·cases h
def zsA(n:Nat):zl prog L8 (n+60) 31 [.bq,wd 0] ⟨[],[]⟩=some (.ret (.bool true),⟨[],[]⟩):=by kernel_rfl
def zrs(n:Nat):zl prog L8 (n+60) 31 [Dc,wd 15] ⟨[],[]⟩=some (.ret (.bool true),⟨[],[]⟩):=by kernel_rfl
end
def Kz(e:ai):Bool:=Nat.beq e 3
def inU(f:FuncId):Bool:=Nat.beq f 45 || [270,273,274,277,278,281,283,286,287,290].any (Nat.beq f)
noncomputable def nM:Gl:={ g:=AD,uq:=Kz,hk:=HB.hk,fB:=λn f args H=>if inU f then zl prog HB (n+1) f args H else none }
def hkU:nW prog nM:=by
 refine⟨hkb.pure,λn f args H out H' h d hd g w aM lc h1 h2 h3=>?_,λgf back ty J' h=>?_⟩
 ·simp only[nM] at h;split at h
  ·exact Calls.mono (wD mixed gT ff hkb (n+1) f args H out H' h g w aM lc h1 h2 h3) λe w' he=>he.mono (by omega)
  ·cases h
 ·have:=eT h;revert this;simp only[yr];omega
def X8{f:FuncId}(h:[11,17,226].any (Nat.beq f)=false)(args:aj):nM.hk f args=none:=by
 simp only[List.any_cons,List.any_nil,Bool.or_false,KD] at h;simp only[nM,HB,h.1,h.2.1,h.2.2,bH,aZ]
def zqu{f:FuncId}(hi:inU f=true)(hn:[11,17,226].any (Nat.beq f)=false){n:Nat}{args:aj}{H:Hp}{r:Out×Hp}(h:zl prog HB (n+1) f args H=some r):zl prog nM (n+1) f args H=some r:=by
 obtain⟨bs,es⟩:=H;have h2:nM.fB n f args ⟨bs,es⟩=some r:=by simp only[nM,hi,aT];exact h
 unfold zl;rw[X8 hn,h2]
def KA{t f:Nat}{u u':V}{nm:String}{args:aj}{n:Nat}{H:Hp}{r:OR×Hp}(hm:qJ prog t u nm=some (f,u'))(hi:inU f=true)(hn:[11,17,226].any (Nat.beq f)=false)(h:kg HB n nm (.bf t u) args H=some r):kg nM n nm (.bf t u) args H=some r:=by
 unfold kg at h ⊢;simp only[Cx.mD,gF,hm,dN,Cx.cX] at h ⊢;cases hf:prog.funcs[f]? with
 | none=>rw[hf] at h;cases h
 | some fn =>
  rw[hf] at h;simp only at h ⊢;cases hb:fn.body with
  | none=>rw[hb] at h;exact h
  | some bd =>
   rw[hb] at h;simp only at h ⊢;cases hc:zl prog HB n f ((u'::args).map aX) H with
   | none=>rw[hc] at h;cases h
   | some q =>
    rw[hc] at h;cases n with
    | zero=>cases hc
    | succ n=>rw[zqu hi hn hc];exact h
def ztE{w:Wd}{bs:List aN}{lo hi:Nat}{v:V}(h:At bs w lo hi v){n:Nat}(hn:1<=n)(es:aC):kg nM n LN v [] ⟨bs,es⟩=some (.val (.bool (gJ w)),⟨bs,es⟩):=by
 have h0:=M9 Ro.toGW h hn es;cases w with
 | mZ=>obtain⟨_,rfl⟩:=h;exact KA M7 rfl rfl h0
 | one s m=>obtain⟨p,_,_,rfl,h4⟩:=h;exact KA (zqd p) rfl rfl h0
 | both a b nl la=>obtain⟨p,m1,m2,va,vb,h1,h2,h3,h4,rfl,h6⟩:=h;exact KA (zqf p) rfl rfl h0
 | alt l nl la=>obtain⟨p,m1,vs,o,h1,h2,h3,rfl,h6⟩:=h;exact KA (zqh p) rfl rfl h0
 | rep w lp nl=>obtain⟨p,m1,v',h1,h2,h3,rfl,h6⟩:=h;exact KA (zqj p) rfl rfl h0
def ztF{w:Wd}{bs:List aN}{lo hi:Nat}{v:V}(h:At bs w lo hi v)(hr:Ap w)(hh:hi<=bs.length){n:Nat}(hn:FW w<=n)(bg:Bool)(c:Nat)(hc:c<256)(es:aC) :
  ∃bs',kg nM n Ji v [.bool bg,.int .u8 (c:Nat)] ⟨bs,es⟩=some (.val (.bool (fu w bg c).2),⟨bs',es⟩)/\At bs' (fu w bg c).1 lo hi v/\bs'.length=bs.length/\∀i,¬(lo<=i/\i<hi)->nth bs' i=nth bs i:=by
 obtain⟨bs',h0,h1,h2,h3⟩:=Rc Ro.toGW (FW w) h hr hh (bV _) hn bg c hc es;refine⟨bs',?_,h1,h2,h3⟩;cases w with
 | mZ=>obtain⟨_,rfl⟩:=h;exact KA M8 rfl rfl h0
 | one s m=>obtain⟨p,_,_,rfl,h4⟩:=h;exact KA (zqe p) rfl rfl h0
 | both a b nl la=>obtain⟨p,m1,m2,va,vb,h1,h2,h3,h4,rfl,h6⟩:=h;exact KA (zqg p) rfl rfl h0
 | alt l nl la=>obtain⟨p,m1,vs,o,h1,h2,h3,rfl,h6⟩:=h;exact KA (zqi p) rfl rfl h0
 | rep w lp nl=>obtain⟨p,m1,v',h1,h2,h3,rfl,h6⟩:=h;exact KA (zqk p) rfl rfl h0
def LU(nb:Nat)(A:aR)(c:V)(B:List aN):Prop:=(A=[]/\c=.aU/\B.length=nb)\/(A≠[]/\∃bZ,c=.fA nb bZ A.length/\B.length=nb+1/\nth B nb=some (.ul bZ 1 (kD A) 3))
def zqv{B:List aN}{A:aR}{c:V}{nb k:Nat}(h:LU nb A c B)(hA:A.length<=65538):∃c' B',(∀(env:aj)(lk:aC)(df:aV)(o:Vm.Own),Lz prog 36 env ⟨B,[]⟩ lk df (some (.sl 1 [.int .i64 (k:Nat)] o)) (some c)=some (.val c',⟨env,⟨B',[]⟩,lk,df⟩))/\LU nb (A++[k]) c' B'/\∀i,i<nb->nth B' i=nth B i:=by
 rcases h with⟨rfl,rfl,rfl⟩|⟨cg,bZ,rfl,hl,hb⟩
 ·refine⟨.fA B.length 0 1,B++[.ul 0 1 (kD [k]) 3],λenv lk df o=>?_,.inr ⟨by simp,0,rfl,by simp,?_⟩,λi hi=>?_⟩
  ·rw[Jr.app (xs:=[]) (i:=none) (by simp) ⟨rfl,rfl⟩ (gR (by simp) (by simp))];rfl
  ·rw[zf,nN (bV _)];simp
  ·rw[zf,zf,nH hi]
 ·have hint:∀l:aR,(l.map λk=>[V.int .i64 (k:Nat)]).flatten=kD l:=λl=>by induction l with
   | nil=>rfl
   | cons a l ih=>simp only[iC,List.flatten_cons,ih,kD];rfl
  have hUL:UL ⟨B,[]⟩ 1 3 (.fA nb bZ A.length) (some nb) (A.map λk=>[V.int .i64 (k:Nat)]):=⟨bZ,by simp,by rw[hint];exact hb⟩
  have bu:nb<B.length:=by omega
  refine⟨.fA nb (bZ+1) (A++[k]).length,B.set nb (.ul (bZ+1) 1 (kD (A++[k])) 3),λenv lk df o=>?_,.inr ⟨by simp,bZ+1,rfl,by simp[hl],?_⟩,λi hi=>?_⟩
  ·rw[Jr.app (i:=some nb) (by simp) hUL (gR (by simp;omega) (by simp;omega))]
   simp only[hint,oO,oI,fY,List.length_nil];rw[qR rfl];have:kD A++dr [V.int .i64 (k:Nat)]=kD (A++[k]):=by simp[kD,dr,V.cells]
   rw[this];rfl
  ·rw[zf];simp[bu]
  ·rw[zf,zf,AM];rw[if_neg (by omega)]
def LU.cut{nb:Nat}{A:aR}{c:V}{B B':List aN}(h:LU nb A c B)(hl:B'.length=B.length)(hn:nth B' nb=nth B nb):LU nb A c B':=by
 rcases h with⟨h1,h2,h3⟩|⟨h1,bZ,h2,h3,h4⟩
 ·exact .inl ⟨h1,h2,hl.trans h3⟩
 ·exact .inr ⟨h1,bZ,h2,hl.trans h3,hn.trans h4⟩
def LU.ge{nb:Nat}{A:aR}{c:V}{B:List aN}(h:LU nb A c B):nb<=B.length:=by
 rcases h with⟨h1,h2,h3⟩|⟨h1,bZ,h2,h3,h4⟩<;>omega
def LU.aX{nb:Nat}{A:aR}{c:V}{B:List aN}(h:LU nb A c B):Vm.aX c=c/\∀env t,jj env t (some c)=some (c,env):=by
 rcases h with⟨h1,rfl,h3⟩|⟨h1,bZ,rfl,h3,h4⟩<;>exact⟨rfl,λ_ _=>rfl⟩
def LU.fin{nb:Nat}{A:aR}{c:V}{B:List aN}(h:LU nb A c B)(es:aC):ql nb es c.top ⟨B,[]⟩=⟨B,es⟩:=by
 rcases h with⟨h1,rfl,h3⟩|⟨h1,bZ,rfl,h3,h4⟩
 ·exact zJ h3.symm (dJ _)
 ·unfold ql;have:Nat.ble (V.fA nb bZ A.length).top nb=false:=by
   cases hb:Nat.ble (V.fA nb bZ A.length).top nb with
   | false=>rfl
   | true=>have:=pO hb;simp only[V.top] at this;omega
  simp only[this,G3,bH,aZ,gF]
def ztG{n:Nat}{w:Wd}{bs:List aN}{es:aC}{lo hi:Nat}{v:V}{nl:Bool}{t:aR}(fP:At bs w lo hi v)(hr:Ap w)(hh:hi<=bs.length)(hn:FW w<=n)(QY:t.length<n)(ht:∀b∈t,b<256)(nu:t.length<=65536) :
  ∃c B,zl prog nM (n+1) 44 [v,zI nl t] ⟨bs,es⟩=some (.ret c,⟨B,es⟩)/\LU bs.length (vm w t) c B:=by
 obtain⟨vt,vu,rfl⟩:=fP.bf;have AG:=λenv=>jV (lk:=[]) (df:=[]) (env:=env) (ztE fP (n:=n) (by have:=Ph w;omega) [])
 suffices eG:go ⟨prog,nM.g,zl prog nM n,nM.uq⟩ n (Fx prog f44.results.toList λu H1=>∃B,H1=⟨B,[]⟩/\LU bs.length (vm w t) u B) [.c (f44.body.getD .skip)] .normal ⟨[.bf vt vu,zI nl t]++List.replicate 32 (.bx []),⟨bs,[]⟩,[],[]⟩ by
  obtain⟨u,H1,h1,B,rfl,h3⟩:=jm (gl:=nM) (f:=44) (bs:=bs) (es:=es) (args:=[.bf vt vu,zI nl t]) (n:=n) (X8 rfl _) (λH=>rfl) func44 rfl eG;exact⟨u,B,by rw[h1,h3.fin],h3⟩
 have K8:nM.uq=Kz:=rfl;rw[K8] at AG ⊢;have hua:CB prog Kz 36=true:=by kernel_rfl
 have gI:∀x,aX (V.sl 1 [x] (.yes 3))=.sl 1 [x] .no:=λ_=>rfl;simp only[f44,tS,zc];refine ze ?_;simp only[BA,cM,cN,List.replicate];refine ze ?_;simp only[BA,cM,cN];refine ze ?_;simp only[BA,zb,zg,cM,cN,qo,zg6,bH,pJ,Cg];rw[<- zc]
 refine zq2 (λs=>∃env B c,s=⟨env,⟨B,[]⟩,[],[]⟩/\env.length=34/\nth env 0=some (.bf vt vu)/\nth env 1=some (zI nl t)/\nth env 5=some c/\LU bs.length (if gJ w then [0] else []) c B/\∀i,i<bs.length->nth B i=nth bs i) ?_ ?_
 ·simp only[zc];refine ze ?_;simp only[BA,zb,zg,cM,cN,qo,zW,AG];cases hw:gJ w with
  | true =>
   refine .inl ⟨rfl,?_⟩;obtain⟨c',B',a1,a2,a3⟩:=zqv (k:=0) (show LU bs.length [] .aU bs from .inl ⟨rfl,rfl,rfl⟩) (dJ _);have a1:=λenv=>a1 env [] [] .no;simp only[Int.natCast_zero] at a1;have lX:=a2.aX;refine y5 (tk:=[12]) (by kernel_rfl) ?_
   simp only[BA,zb,zg,cM,cN,zqp (show eF (.int .i64 0)=true from rfl) rfl,gI,vY (cx:=⟨prog,nM.g,zl prog nM n,Kz⟩) hua,a1,lX.2];exact⟨_,_,_,rfl,rfl,rfl,rfl,rfl,a2,a3⟩
  | false =>
   refine .inr ⟨rfl,?_⟩;simp only[zo,znD,bH,aZ,znD];exact⟨_,_,_,rfl,rfl,rfl,rfl,rfl,.inl ⟨rfl,rfl,rfl⟩,λ_ _=>rfl⟩
 ·rintro s ⟨env,B0,c0,rfl,aW,e0,e1,e5,J3,hBf⟩;have ac8:=J3.ge;simp only[zc];refine ze ?_;simp only[BA,za,Nat.reduceLT,e1,aW,zS,xL]
  refine km (λm s=>∃k env B w' A c,m+k=t.length/\s=⟨env,⟨B,[]⟩,[],[]⟩/\env.length=34/\nth env 0=some (.bf vt vu)/\nth env 5=some c/\nth env 15=some (zI nl t)/\nth env 16=some (.int .i64 t.length)/\nth env 17=some (.int .i64 (k:Nat))/\At B w' lo hi (.bf vt vu)/\LU bs.length A c B/\FW w'=FW w/\Ap w'/\A.length<=k+1/\vm w t=A++eu w' k (t.drop k)) t.length QY ⟨0,_,B0,w,if gJ w then [0] else [],c0,rfl,rfl,?_,?_,?_,?_,?_,?_,fP.frame λi _ hi=>hBf i (by omega),J3,rfl,hr,?_,rfl⟩ ?_
  ·simp[aW]
  ·simp[za,e0]
  ·simp[za,e5]
  ·simp[za,aW]
  ·simp[za,aW]
  ·simp[za,aW]
  ·split<;>simp
  clear aW e0 e1 e5 env AG fP hr J3 ac8 hBf B0 c0;rintro m s ⟨k,env,B,w',A,c,Ck,rfl,aW,e0,e5,HC,Uz,X9,fP,J3,hFW,hr,hAl,hA⟩;have tH:=J3.ge;simp only[zc];refine ze ?_;simp only[BA,za,Nat.reduceLT,Uz,X9,aW,jr]
  by_cases hk:k<t.length
  ·refine .inl ⟨by simp;omega,?_⟩
   obtain⟨b,hb⟩:∃b,t[k]?=some b:=⟨t[k],by simp[hk]⟩
   have Pu:b<256:=ht b (oH hb);have fD:t.drop k=b::t.drop (k+1):=by
    rw[J6 hk];rw[lB hk] at hb;rw[tU hb]
   rw[fD] at hA;simp only[eu] at hA;obtain⟨B2,a1,a2,a3,a4⟩:=ztF fP hr (by omega) (n:=n) (by omega) (k == 0) b Pu []
   have b8:=λenv=>jV (lk:=[]) (df:=[]) (env:=env) a1;rw[K8] at b8;have PK:LU bs.length A c B2:=J3.cut a3 (a4 _ (by omega))
   have EP:((k:Int) == 0)=(k == 0):=by
    cases k with
    | zero=>rfl
    | succ k=>exact(beq_false_of_ne (by omega)).trans (beq_false_of_ne (by omega)).symm
   have lX:=PK.aX;have hN:∀bB,bB.length=34->nth bB 0=some (.bf vt vu)->∀A' c' B',nth bB 5=some c'->nth bB 15=some (zI nl t)->nth bB 16=some (.int .i64 t.length)->nth bB 17=some (.int .i64 ((k+1:Nat):Int))->A'.length<=k+2->vm w t=A'++eu (fu w' (k == 0) b).1 (k+1) (t.drop (k+1))->LU bs.length A' c' B'->(∀i,i<bs.length->nth B' i=nth B2 i) ->
     ∃i,i<m/\∃k env B w' A c,i+k=t.length/\(⟨bB,⟨B',[]⟩,[],[]⟩:St)=⟨env,⟨B,[]⟩,[],[]⟩/\env.length=34/\nth env 0=some (.bf vt vu)/\nth env 5=some c/\nth env 15=some (zI nl t)/\nth env 16=some (.int .i64 t.length)/\nth env 17=some (.int .i64 (k:Nat))/\At B w' lo hi (.bf vt vu)/\LU bs.length A c B/\FW w'=FW w/\Ap w'/\A.length<=k+1/\vm w t=A++eu w' k (t.drop k) :=
    λbB g0 g1 A' c' B' g2 g3 g4 g5 g6 g7 g8 g9=>⟨m - 1,by omega,k+1,bB,B',_,A',c',by omega,rfl,g0,g1,g2,g3,g4,g5,a2.frame λi _ hi=>g9 i (by omega),g8,(A_ _ _ _ _ (bV _)).trans hFW,uX _ _ _ _ (bV _) hr,by omega,g7⟩
   try simp only[bC,zc,zU]
   refine ze ?_;simp only[BA,Nat.reduceEqDiff,za,cI,Nat.reduceLT,aZ,HC,X9,aW,zS,gW,zn2 hb,Rk];refine ze ?_;simp only[BA,Nat.reduceEqDiff,za,cI,Nat.reduceLT,aZ,e0,aW,qo,qE,EP,zW,b8];cases mX:(fu w' (k == 0) b).2 with
   | false =>
    rw[mX] at hA;simp only[bH,aZ,gF] at hA;simp only[bH,pJ,Cg,fK];refine ze ?_;simp only[BA,Nat.reduceEqDiff,za,cI,Nat.reduceLT,aZ,X9,aW,qf (show k<2 ^ 60 by omega),zo,bL]
    refine hN _ ?_ ?_ A c B2 ?_ ?_ ?_ ?_ (by omega) hA PK (λ_ _=>rfl)
    ·simp[aW]
    ·simp[za,e0]
    ·simp[za,e5]
    ·simp[za,HC]
    ·simp[za,Uz]
    ·simp[za,aW]
   | true =>
    rw[mX] at hA;simp only[aT,<- nI] at hA;simp only[fK,Cz,pJ,E1];obtain⟨c',B',b1,b2,b3⟩:=zqv (k:=k+1) PK (by omega)
    have b1:=λenv=>b1 env [] [] .no;have ac9:=b2.aX;refine y5 (tk:=[27]) (by kernel_rfl) ?_
    simp only[BA,Nat.reduceEqDiff,za,cI,Nat.reduceLT,aZ,e5,aW,lX.1,lX.2,qf (show k<2 ^ 60 by omega),zqp (show eF (.int .i64 ((k+1:Nat):Int))=true from rfl) rfl,gI,vY (cx:=⟨prog,nM.g,zl prog nM n,Kz⟩) hua,b1,ac9.2]
    refine ze ?_;simp only[BA,Nat.reduceEqDiff,za,cI,Nat.reduceLT,aZ,X9,aW,qf (show k<2 ^ 60 by omega),zo,bL]
    refine hN _ ?_ ?_ (A++[k+1]) c' B' ?_ ?_ ?_ ?_ (by simp;omega) hA b2 b3
    ·simp[aW]
    ·simp[za,e0]
    ·simp[za,aW]
    ·simp[za,HC]
    ·simp[za,Uz]
    ·simp[za,aW]
  ·refine .inr ⟨by simp;omega,?_⟩
   obtain rfl:k=t.length:=by omega
   rw[List.drop_length] at hA;simp only[eu,uf] at hA;rw[hA];have lX:=J3.aX;simp only[jY,q8,qB,zo,dV,zc,pP,aT,zo];refine ze ?_;simp only[BA,Nat.reduceEqDiff,za,cI,Nat.reduceLT,aZ,e5,aW,lX.1,lX.2];simp only[go_ret,zo,Fx]
   refine⟨trivial,[c],?_,B,rfl,J3⟩;simp[zG,za,aW]
def Nt(e:E)(t:aR)(u:V)(H:Hp):Prop:=if e_ e t=true then (q7 e t=[]/\u=.bx [.aU,.bq])\/(q7 e t≠[]/\∃b bZ,u=.bx [.fA b bZ (q7 e t).length,.bq]/\H.af[b]?=some (.ul bZ 1 (kD (q7 e t)) 3)) else u=.bx [.aU,Dc]
def ztH{e:E}(hw:Wf e)(hc:Can e){n:Nat}(hn:1<=n)(H:Hp):Cx.cX ⟨prog,nM.g,zl prog nM n,Kz⟩ 11 [.agg (aE e)] H=some (.val (.bool (v4 e)),H):=by
 have:=yM (gl:=nM) (n:=n - 1) (H:=H) (show nM.hk 11 [enc e]=some (.bool (v4 e)) from Ro.chk e hw hc);rw[show n - 1+1=n by omega,zV] at this
 exact zR func11 rfl this
def zop{n:Nat}{bs:List aN}{es:aC}{nl:Bool}{t:aR}:zl prog nM (n+1) 44 [.bq,zI nl t] ⟨bs,es⟩=some (.ret .aU,⟨bs,es⟩):=by
 refine qH (X8 rfl _) (λH=>rfl) func44 rfl ?_;simp only[f44,zc];refine ze ?_;simp only[BA,Nat.reduceAdd,cM,cN,List.replicate,Nat.reduceSub];refine ze ?_;simp only[BA,cM,cN];refine ze ?_;simp only[BA,zb,zg,cM,cN,iK,zg7,Cz,pJ,E1];refine ze ?_;simp only[BA,cM,cN];simp only[go_ret,zo,je,Vm.Fin]
 exact⟨trivial,[.aU],rfl,rfl,(zJ rfl (dJ _)).symm⟩
def ztI{e:E}{nl:Bool}{t:aR}(hw:Wf e)(hc:Can e)(hr:Rg e)(ht:∀b∈t,b<256){n:Nat}(hn:2 * YtlnijcffanjieaaGreatDoor.hg e+t.length+2<=n):∃u H',zl prog nM (n+1) 14 [enc e,zI nl t] ⟨[],[]⟩=some (.ret u,H')/\Nt e t u H':=by
 suffices eG:go ⟨prog,nM.g,zl prog nM n,nM.uq⟩ n (Fx prog f14.results.toList λu H1=>Nt e t u H1) [.c (f14.body.getD .skip)] .normal ⟨[.agg (aE e),zI nl t]++List.replicate 17 (.bx []),⟨[],[]⟩,[],[]⟩ by
  rw[zV];obtain⟨u,H1,h1,h2⟩:=jm (gl:=nM) (f:=14) (bs:=[]) (es:=[]) (args:=[.agg (aE e),zI nl t]) (n:=n) (X8 rfl _) (λH=>rfl) func14 rfl eG;refine⟨_,_,h1,?_⟩;unfold Nt at h2 ⊢;split at h2
  ·rename_i hk;rw[if_pos hk];rcases h2 with h2|⟨h2,b,bZ,rfl,h3⟩
   ·exact .inl h2
   ·refine .inr ⟨h2,b,bZ,rfl,?_⟩;unfold ql;simp only[V.top,aA,List.length_nil];have:Nat.ble (max (b+1) (max 0 0)) 0=false:=by
     cases hb:Nat.ble (max (b+1) (max 0 0)) 0 with
     | false=>rfl
     | true=>have:=pO hb;omega
    simp only[this,G3,bH,aZ];exact h3
  next hk=>rw[if_neg hk];exact h2
 have K8:nM.uq=Kz:=rfl;rw[K8];have M6:=ztH hw hc (n:=n) (by omega)
 simp only[f14,tS,zc];refine ze ?_;simp only[BA,qc,zb,cM,cN,qQ (show eF (.agg (aE e))=true from rfl),V.laid,wx,List.replicate];have hB:nth ([]++[aN.cells (aE e) 27]) 0=some (.cells (aE e) 27):=rfl;have lz:∀g,zA prog ⟨[.cells (aE e) 27],[]⟩ g 27 (.ptr 0 0)=some (.agg (aE e)):=λg=>zn4 rfl;refine ze ?_;simp only[BA,zb,zg,cM,cN,lz,M6,NG]
 have AP:∀H,zA prog H nM.g 38 (.gj 0 0)=some Dc:=λH=>by simp[zA,GA,Ro.g0,show nM.g=HB.g from rfl]
 cases LY:v4 e
 ·simp only[BA,zb,zg,cM,cN,jb,zF,qa,gS,yh,Dr,zS,xL,Qw];refine .inl ?_;refine xH [] [(false,false),(false,false),(false,false)] (tk:=[]) (by kernel_rfl) (by kernel_rfl) ?_
  simp only[BA,zb,zg,cM,cN,oB,sI,Q7,kA,GA,AP,Dc,qo,qu];simp only[go_ret,zo,je,Fx]
  refine⟨trivial,[.aU,Dc],rfl,?_⟩;simp only[Nt,e_,LY,fN,G3,bH,aZ];rfl
 ·simp only[BA,zb,zg,cM,cN,jb,zF,qa,eX,kZ,pI,zS,xL,Qw]
  by_cases hlen:(t.length:Int) > 65536
  ·refine .inl ⟨by simpa using hlen,?_⟩
   refine xH [] [(false,false),(false,false),(false,false)] (tk:=[]) (by kernel_rfl) (by kernel_rfl) ?_
   simp only[BA,zb,zg,cM,cN,oB,sI,Q7,kA,GA,AP,Dc,qo,qu];simp only[go_ret,zo,je,Fx]
   refine⟨trivial,[.aU,Dc],rfl,?_⟩;have:¬t.length<=65536:=by omega
   simp only[Nt,e_,LY,fN,this,decide_false,Bool.and_false,bH,aZ];rfl
  ·refine .inr ⟨by simpa using hlen,?_⟩
   have hle:t.length<=65536:=by omega
   have Js:=Rj LY;obtain⟨v,bs',fJ,UA,fZ,Bt,fG⟩:=zn1 Ro.toGW _ e (bV _) Js (n - 1) (by omega) [.cells (aE e) 27] []
   rw[show n - 1+1=n by omega,zV,uf] at UA
   obtain⟨m,rfl⟩:∃m,n=m+1:=⟨n - 1,by omega⟩
   have Rm:=zR (gl:=nM.g) (uq:=Kz) func45 rfl (zqu (f:=45) rfl rfl UA);have hE:e_ e t=true:=by simp[e_,LY,hle]
   cases GB:h_ e with
   | none =>
    rw[GB] at fG;obtain rfl:v=.bq:=fG;have h44:=zop (n:=m) (bs:=bs') (es:=fJ) (nl:=nl) (t:=t);have c44:=zR (gl:=nM.g) (uq:=Kz) func44 rfl h44;refine ze ?_;simp only[BA,zb,zg,cM,cN,lz,Rm,c44,zS,iK];simp only[go_ret,zo,Fx]
    refine⟨trivial,[.aU,.bq],rfl,?_⟩;unfold Nt;rw[if_pos hE];exact .inl ⟨by simp[q7,GB],rfl⟩
   | some w =>
    rw[GB] at fG;obtain⟨hi,r9,fP⟩:=fG;have hFW:=BX _ e w (bV _) GB;obtain⟨c,B,h44,J3⟩:=ztG (n:=m) (es:=fJ) (nl:=nl) (t:=t) fP (BY _ e w (bV _) Js hr GB) r9 (by omega) (by omega) ht hle
    obtain⟨vt,vu,rfl⟩:=fP.bf;have c44:=zR (gl:=nM.g) (uq:=Kz) func44 rfl h44;have lX:=J3.aX;refine ze ?_;simp only[BA,zb,zg,cM,cN,lz,Rm,c44,zS,qo,lX.2];simp only[go_ret,zo,Fx]
    refine⟨trivial,[c,.bq],?_,?_⟩
    ·simp only[zG,zb,zg]
    ·unfold Nt;rw[if_pos hE];have hG:q7 e t=vm w t:=by simp[q7,GB]
     rw[hG];rcases J3 with⟨h1,rfl,h3⟩|⟨h1,bZ,rfl,h3,h4⟩
     ·exact .inl ⟨h1,rfl⟩
     ·exact .inr ⟨h1,_,bZ,rfl,by rw[<- zf];exact h4⟩
def zpT{H:Hp}{v y:V}(h:mL H v y):∀{z:V},mL H v z->v.top≠0->(∀xs o,v≠.sl 1 xs o)->(∀xs,v≠.agg xs)->(∀xs,v≠.bx xs)->y=z:=by
 intro z hz ht h1 h2 h3;cases h with
 | same h=>exact absurd h ht
 | sr a b c=>cases hz with
  | same h=>exact absurd h ht
  | sr a' b' c'=>rw[a] at a';cases a';rfl
 | ul a b=>cases hz with
  | same h=>exact absurd h ht
  | ul a' b'=>rw[a] at a';cases a';rfl
 | sl=>exact absurd rfl (h1 _ _)
 | agg=>exact absurd rfl (h2 _)
 | bx=>exact absurd rfl (h3 _)
section
open Go.Vm.Sx
mutual
def eL:E->E
 | .mk op pl s0 s1 s2 s3 text mn mx _ args=>.mk op pl s0 s1 s2 s3 text mn mx args.isEmpty (eR args)
def eR:List E->List E
 | []=>[]
 | a::l=>eL a::eR l
end
def pG:∀(l:List E),(eR l).length=l.length
 | []=>rfl
 | a::l=>by simp only[eR,fY,pG l]
mutual
def sR:∀(e:E),enc (eL e)=enc (eH e)
 | .mk op pl s0 s1 s2 s3 text mn mx nl args=>by
  simp only[eL,eH,enc,Aa args];cases args with
  | nil=>rfl
  | cons a l=>simp[qS,bl,uZ]
def Aa:∀(l:List E),bl (eR l)=bl (uZ l)
 | []=>rfl
 | a::l=>by simp only[eR,uZ,bl,sR a,Aa l]
end
mutual
def Ab:∀(e:E),(Wf e->Wf (eL e))/\Can (eL e)/\(Rg e->Rg (eL e))/\h_ (eL e)=h_ e/\nodes (eL e)=nodes e
 | .mk op pl s0 s1 s2 s3 text mn mx nl args=>by
  obtain⟨h1,h2,h3,h4,h5⟩:=Bh args;refine⟨λh=>⟨h.1,by rw[pG];exact h.2.1,h1 h.2.2⟩,⟨λh=>?_,h2⟩,λh=>⟨h.1,h3 h.2⟩,?_,?_⟩
  ·cases args with
   | nil=>rfl
   | cons a l=>simp at h
  ·simp only[eL,h_,h4.1,h4.2.1,h4.2.2]
  ·simp only[eL,nodes,h5]
def Bh:∀(l:List E),(Jh l->Jh (eR l))/\sN (eR l)/\(AJ l->AJ (eR l))/\(fI (eR l)=fI l/\cQ (eR l)=cQ l/\mz (eR l)=mz l)/\c8 (eR l)=c8 l
 | []=>⟨λ_=>trivial,trivial,λ_=>trivial,⟨rfl,rfl,rfl⟩,rfl⟩
 | a::l=>by
  obtain⟨h1,h2,h3,h4,h5⟩:=Bh l;obtain⟨k1,k2,k3,k4,k5⟩:=Ab a;exact⟨λh=>⟨k1 h.1,h1 h.2⟩,⟨k2,h2⟩,λh=>⟨k3 h.1,h3 h.2⟩,⟨by simp only[eR,fI,h4.1,k4],by simp only[eR,cQ,h4.2.1,k4],by simp only[eR,mz,k4]⟩,by simp only[eR,c8,h5,k5]⟩
end
mutual
def Dq:∀(e:E)(d n s:Int),dg (eL e) d n s=dg e d n s
 | .mk op pl s0 s1 s2 s3 text mn mx nl args,d,n,s=>by
  have h:=Bi args;have hk:fX (.mk op pl s0 s1 s2 s3 text mn mx args.isEmpty (eR args))=fX (.mk op pl s0 s1 s2 s3 text mn mx nl args):=by simp only[fX,pG]
  have hl:mT (.mk op pl s0 s1 s2 s3 text mn mx args.isEmpty (eR args))=mT (.mk op pl s0 s1 s2 s3 text mn mx nl args):=rfl;simp only[eL,dg,hl,hk,h]
def Bi:∀(l:List E)(d n s:Int),eE d (eR l) n s=eE d l n s
 | [],d,n,s=>rfl
 | a::l,d,n,s=>by simp only[eR,eE,Dq a,Bi l]
end
def zmf(e:E):v4 (eL e)=v4 e:=by unfold v4;rw[Dq]
def zoq(e:E)(t:aR):e_ (eL e) t=e_ e t/\q7 (eL e) t=q7 e t/\vj (eL e) t=vj e t:=by
 have h:=(Ab e).2.2.2.1;exact⟨by unfold e_;rw[zmf],by unfold q7;rw[h],by unfold vj;rw[h]⟩
def zpU{x y:V}:we prog [34,34] [.d x,.d y] 0:=by
 refine⟨λe=>?_,λe=>?_,trivial⟩<;>rw[underlying34]<;>simp
def zor{t:aR}{i b:Nat}(h:t[i]?=some b):nth (t.map λb=>V.int .u8 (b:Nat)) i=some (.int .u8 (b:Nat)):=by rw[zf,pH,h];rfl
variable{gl:Gl}[ir gl]
def ztJ(cU:GL gl)(nl nl':Bool)(a:aR)(hl:a.length<=140737488351232):Ev prog gl 59 [.d (zI nl a),.d (zI nl' a)] [] (.bool true) []:=by
 refine qv (xs:=[zI nl a,zI nl' a]) cU.top (cU.no 59 rfl) GN func59 (by kernel_rfl) zpU (by simp[aA,kB]) (N:=a.length+1) ?_
 simp only[JE];have he:((a.length:Int) == (a.length:Int))=true:=by simp
 simp only[SA,wJ,kT,oO,he];refine wg (st:=λi=>[.int .i64 (i:Int)]) (m:=a.length) (λi hi=>?_) ?_ (by omega)
 ·obtain⟨b,hb⟩:∃b,a[i]?=some b:=⟨a[i],by simp[hi]⟩
  have h1:=Hv hi;have h2:=zor hb;have h4:=Ek (i:=i) (by omega)
  have he:((b:Int) == (b:Int))=true:=by simp
  have kb:fm (.int .u8) (V.int .u8 (b:Nat))=true:=rfl;simp only[EH];simp only[SA,kT,oO,h1,h2,h4,kb,he,rM]
 ·have h1:=Hw (bV a.length);simp only[EH];simp only[SA,kT,oO,h1]
end
section
open Go.Vm.Sx
def U2(f:FuncId)(args:aj)(v:V):Prop:=∀(d:Nat)(H:Hp)(g:Gh)(w:aB)(aM:cO)(l:Vm.Loc),gv prog L7 g->m8 g H.af w->dG g H.af.length args aM->Calls prog f aM w (dP d H g w l (.ret v) H)
def gz.x{f:FuncId}{args:aj}{v:V}(h:gz f args v):U2 f args v:=λd H g w aM l h1=>h d H g w aM l (Rv h1)
def xc{gl:Gl}[ir gl](cU:gl.g=AD)(Fh:nW prog gl){f:FuncId}{xs:aj}{v:V}(h:Ev prog gl f (xs.map .d) [] v [])(ht:aA xs=0)(hv:v.top=0):gz f xs v:=λd H g w aM lc h1 h2 h3=>by
 obtain⟨k,hk⟩:=Sx.Ev.run (xs:=xs) h ⟨[],[]⟩;exact vD mixed gT ff Fh (hk k (bV _)) ht hv (by rw[cU];exact h1) h2 h3
def X_(p:E×Bool×aR):Prop:=Q14 p/\nodes p.1<=65536
def L9:Bool->aj
 | false=>[.bq,wd 0]
 | true=>[Dc,wd 15]
def zos(e:E)(t:aR):(L5 e t).top=0:=by
 unfold L5;split
 ·simp[V.top,aA,zha,wd]
 ·rfl
def zot(e:E)(t:aR):(L6 e t).top=0:=by
 unfold L6;split<;>rfl
def PL(p:Tx):V:=zI (p.1 && p.2.isEmpty) (LZ p.2)
def zou{p q:Tx}(h:[AK p]=[AK q]):PL p=PL q:=by
 obtain⟨a,t⟩:=p;obtain⟨b,t'⟩:=q;have h:=(List.cons.inj h).1;have:=UJ h;subst this;cases t with
 | nil=>cases a<;>cases b<;>first|rfl|(simp[AK,zI,lv] at h)
 | cons x t=>simp[PL]
noncomputable def J4:List (Nat×(aj->bS)):=[(10,rW (λe=>[enc e,.int .i64 0]) oY (λe=>.int .i64 (fQ e 0))),(12,rW (λ_:Unit=>[]) (λ_=>True) (λ_=>.bool true)),(13,rW (λp:Tx=>[AK p]) (λ_=>True) PL),
 (27,rW UH (λe=>oY e/\nodes e<=65536) (λe=>enc (eH e))),(29,rW PB X_ (λp=>L5 p.1 p.2.2)),(30,rW PB X_ (λp=>L6 p.1 p.2.2)),(31,rW L9 (λ_=>True) (λ_=>.bool true)),(34,rW (λe=>[enc (eH e),enc e]) oY (λ_=>.bool true))]
def L_:∀p∈J4,∀args v,p.2 args=some v->U2 p.1 args v:=by
 have hx:∀{α:Type}{en:α->aj}{Q:α->Prop}{F:α->V}{f:Nat},(∀a,Q a->U2 f (en a) (F a))->∀args v,rW en Q F args=some v->U2 f args v:=λh args v hh=>by
  obtain⟨a,hq,rfl,rfl⟩:=vg hh;exact h a hq
 unfold J4;refine FT.2 ⟨hx (α:=E) λe he=>(xc rfl EP (xs:=[enc e,.int .i64 0]) (zrU Kx e he.1 0) (by simp[aA,cL,V.top]) rfl).x,?_⟩
 refine FT.2 ⟨hx (α:=Unit) λ_ _ d H g w aM l h1 h2 h3=>ok3.pure 12 [] (.bool true) rfl d H g w aM l (Rv h1) h2 h3,?_⟩;refine FT.2 ⟨hx (α:=Tx) λp _=>(xc rfl EP (xs:=[AK p]) (ztv Kx p.1 p.2) (by simp[aA,AK,kB]) (kB _ _)).x,?_⟩
 refine FT.2 ⟨hx (α:=E) λe he=>(xc rfl EP (xs:=[enc e]) (zse Kx e he.1.1 (tC e (by omega))) (by simp[aA,cL]) (cL _)).x,?_⟩
 refine FT.2 ⟨hx (α:=E×Bool×aR) λp hp=>(xc rfl hkR (xs:=[enc p.1,zI p.2.1 p.2.2]) (ztC hp.1.1 hp.1.2.1 hp.2 hp.1.2.2) (by simp[aA,cL,kB]) (zos _ _)).x,?_⟩
 refine FT.2 ⟨hx (α:=E×Bool×aR) λp hp=>(xc rfl hkR (xs:=[enc p.1,zI p.2.1 p.2.2]) (ztD hp.1.1 hp.1.2.1 hp.2 hp.1.2.2) (by simp[aA,cL,kB]) (zot _ _)).x,?_⟩
 refine FT.2 ⟨hx (en:=L9) (Q:=λ_=>True) (F:=λ_=>.bool true) (f:=31) λb _ d H g w aM l h1 h2 h3=>?_,?_⟩
 ·cases b with
  | false=>exact vD mixed gT ff hkE (zsA 0) rfl rfl h1 h2 h3
  | true=>exact vD mixed gT ff hkE (zrs 0) rfl rfl h1 h2 h3
 refine FT.2 ⟨hx (α:=E) λe he=>(xc rfl EP (xs:=[enc (eH e),enc e]) (zsp Kx e he.1) (by simp[aA,cL]) rfl).x,?_⟩
 exact λp hp=>by cases hp
def PM(f:FuncId)(args:aj)(H:Hp)(r:Out×Hp):Prop:=∀(d:Nat)(g:Gh)(w:aB)(aM:cO)(l:Vm.Loc),gv prog L7 g->m8 g H.af w->dG g H.af.length args aM->Calls prog f aM w (dP d H g w l r.1 r.2)
open Classical in
noncomputable def KB(S:aj->Hp->Out×Hp->Prop)(f:FuncId)(args:aj)(H:Hp):Option (Out×Hp):=if h:∃r,S args H r/\PM f args H r then some (Classical.choose h) else none
def zov{S:aj->Hp->Out×Hp->Prop}{f:FuncId}{args:aj}{H:Hp}{r:Out×Hp}(h:KB S f args H=some r):S args H r/\PM f args H r:=by
 unfold KB at h;split at h
 next hex=>rw[<- tU h];exact KC hex
 ·cases h
def zjS{S:aj->Hp->Out×Hp->Prop}{f:FuncId}{args:aj}{H:Hp}{r:Out×Hp}(h1:S args H r)(h2:PM f args H r):∃r,KB S f args H=some r/\S args H r:=by
 unfold KB;rw[dif_pos ⟨r,h1,h2⟩];exact⟨_,rfl,(KC (⟨r,h1,h2⟩:∃r,S args H r/\PM f args H r)).1⟩
def Rw(e:E)(t:aR)(H:Hp)(r:Out×Hp):Prop:=if e_ e t=true then (q7 e t=[]/\r=(.ret (.bx [.aU,.bq]),H))\/(q7 e t≠[]/\∃bZ,r=(.ret (.bx [.fA H.af.length bZ (q7 e t).length,.bq]),H.push (.ul bZ 1 (kD (q7 e t)) 3))) else r=(.ret (.bx [.aU,Dc]),H)
def Rx(H:Hp)(args:aj)(e:E)(t:aR):Prop:=oY e/\∃nl b off len cap,args=[enc e,.sr b off len cap]/\mL H (.sr b off len cap) (zI nl t)
def zi0{H:Hp}{args:aj}{e e':E}{t t':aR}(h:Rx H args e t)(h':Rx H args e' t'):e=e'/\t=t':=by
 obtain⟨g,nl,b,off,len,cap,rfl,hf⟩:=h;obtain⟨g',nl',b',Lw,CJ,o5,e1,H8⟩:=h';simp only[rZ,V.sr.injEq,r8] at e1;obtain⟨e1,rfl,rfl,rfl,rfl⟩:=e1;refine⟨l_ _ _ g.2 g'.2 e1,UJ (zpT hf H8 (by simp[V.top]) ?_ ?_ ?_)⟩<;>(intros;intro h;cases h)
def S14(args:aj)(H:Hp)(r:Out×Hp):Prop:=∀e t,Rx H args e t->Rw e t H r
def S16(args:aj)(H:Hp)(r:Out×Hp):Prop:=∀e t,Rx H args e t->r=(.ret (EA e t),H)
def Ya(_:aj)(H:Hp)(r:Out×Hp):Prop:=r=(.ret (.bool true),H)
noncomputable def dH:Gl:={ g:=L7,uq:=λt=>Nat.beq t 3 || Nat.beq t 5,hk:=rK J4,fB:=λ_ f args H=>if Nat.beq f 14 then KB S14 14 args H else if Nat.beq f 16 then KB S16 16 args H else if Nat.beq f 21 then KB Ya 21 args H else if Nat.beq f 59 then KB Ya 59 args H else none }
def hk8:nW prog dH:=by
 refine⟨λf args v h d H g w aM l h1 h2 h3=>X0 (Q:=U2) J4 L_ h d H g w aM l h1 h2 h3,λn f args H out H' h d hd g w aM l h1 h2 h3=>?_,λgf back ty J' h=>?_⟩
 ·simp only[dH] at h;have hs:∀{S:aj->Hp->Out×Hp->Prop}{k:Nat},Nat.beq f k=true->KB S k args H=some (out,H')->PM f args H (out,H'):=λhf hh=>by
   rw[eT hf];exact(zov hh).2
  split at h
  next hf=>exact hs hf h d g w aM l h1 h2 h3
  split at h
  next hf=>exact hs hf h d g w aM l h1 h2 h3
  split at h
  next hf=>exact hs hf h d g w aM l h1 h2 h3
  split at h
  next hf=>exact hs hf h d g w aM l h1 h2 h3
  ·cases h
 ·simp only[dH,gZ] at h;rcases h with h|h<;>(have:=eT h;revert this;simp only[yr];omega)
def zow{H:Hp}{e:E}{nl:Bool}{t:aR}{x:V}(hf:mL H x (zI nl t)):TW H [enc e,x] [enc e,zI nl t]:=by
 refine⟨rfl,λj a b ha hb=>?_⟩
 match j,ha,hb with
 | 0,ha,hb =>
  cases ha;cases hb;refine⟨.same (cL e),λsz xs o h=>?_⟩;obtain⟨op,pl,s0,s1,s2,s3,text,mn,mx,nl',args⟩:=e;simp[enc] at h
 | 1,ha,hb =>
  cases ha;cases hb;refine⟨hf,λsz xs o h=>?_⟩;unfold zI lv at h;split at h<;>cases h
 | j+2,ha,hb=>simp at ha
def ztK{H:Hp}{x _y:V}{nl nl':Bool}{l:aj}(hf:mL H x (lv 1 nl l))(hl:aA l=0):TW H [x,lv 1 nl' l] [lv 1 nl l,lv 1 nl' l]:=by
 have lC:∀nl sz xs o,lv 1 nl l≠.sl sz xs (.yes o):=λnl sz xs o h=>by
  unfold lv at h;split at h<;>cases h
 refine⟨rfl,λj a b ha hb=>?_⟩
 match j,ha,hb with
 | 0,ha,hb=>cases ha;cases hb;exact⟨hf,lC _⟩
 | 1,ha,hb=>cases ha;cases hb;exact⟨.same (by rw[TQ];exact hl),lC _⟩
 | j+2,ha,hb=>simp at ha
def x14{e:E}{nl:Bool}{t:aR}{H:Hp}{b off len cap:Nat}(he:oY e)(hr:Rg e)(ht:∀b∈t,b<256)(hf:mL H (.sr b off len cap) (zI nl t)):∃r,(∀n,dH.fB n 14 [enc e,.sr b off len cap] H=some r)/\Rw e t H r:=by
 have fP:Rx H [enc e,.sr b off len cap] e t:=⟨he,nl,b,off,len,cap,rfl,hf⟩;have hS:∀r,Rw e t H r->S14 [enc e,.sr b off len cap] H r:=λr h e' t' h'=>by
  obtain⟨rfl,rfl⟩:=zi0 fP h';exact h
 obtain⟨u,H',hc,hu⟩:=ztI (nl:=nl) he.1 he.2 hr ht (bV _);have Cc:=wD mixed gT ff hkU _ 14 [enc e,zI nl t] ⟨[],[]⟩ (.ret u) H' hc
 suffices eG:∃r,Rw e t H r/\PM 14 [enc e,.sr b off len cap] H r by
  obtain⟨r,h1,h2⟩:=eG;obtain⟨r',h3,h4⟩:=zjS (hS r h1) h2;exact⟨r',λn=>h3,h4 e t fP⟩
 unfold Nt at hu;unfold Rw;have lC:∀v:V,Ao v=true->u=v->PM 14 [enc e,.sr b off len cap] H (.ret v,H):=λv hv hu=>by
  subst hu;exact λd g w aM l h1 h2 h3=>ze0 (gl:=L8) hv h1 h2 (zow hf) h3 λg' k1 k2 k3=>Cc g' w aM l (Rv k1) k2 k3
 split at hu
 ·rename_i hk;simp only[hk,aT];rcases hu with⟨h1,h2⟩|⟨h1,b0,bZ,rfl,h3⟩
  ·exact⟨_,.inl ⟨h1,rfl⟩,lC _ rfl h2⟩
  ·refine⟨_,.inr ⟨h1,bZ,rfl⟩,λd g w aM l k1 k2 k3=>zl3 (gl:=L8) h3 ?_ rfl k1 k2 (zow hf) k3 λg' m1 m2 m3=>Cc g' w aM l (Rv m1) m2 m3⟩;have:∀l:aR,tN (kD l)=true:=λl=>by
    induction l with
    | nil=>rfl
    | cons a l ih=>simp only[kD,iC,tN,Ao,ug] at ih ⊢;exact ih
   exact this _
 next hk=>simp only[if_neg hk];exact⟨_,rfl,lC _ rfl hu⟩
def x16{e:E}{nl:Bool}{t:aR}{H:Hp}{b off len cap:Nat}(he:oY e)(hr:Rg e)(ht:∀b∈t,b<256)(hf:mL H (.sr b off len cap) (zI nl t))(n:Nat):dH.fB n 16 [enc e,.sr b off len cap] H=some (.ret (EA e t),H):=by
 have fP:Rx H [enc e,.sr b off len cap] e t:=⟨he,nl,b,off,len,cap,rfl,hf⟩;obtain⟨H',hc⟩:=Uz Ro (nl:=nl) he.1 he.2 hr ht (bV _);have Cc:=wD mixed gT ff hkb _ 16 [enc e,zI nl t] ⟨[],[]⟩ (.ret (EA e t)) H' hc;have hv:Ao (EA e t)=true:=by unfold EA;split<;>rfl
 obtain⟨r,h1,h2⟩:=zjS (S:=S16) (f:=16) (r:=(.ret (EA e t),H)) (λe' t' h'=>by obtain⟨rfl,rfl⟩:=zi0 fP h';rfl)
  (λd g w aM l k1 k2 k3=>ze0 (gl:=L8) hv k1 k2 (zow hf) k3 λg' m1 m2 m3=>Cc g' w aM l (Rv m1) m2 m3)
 rw[<- h2 e t fP];exact h1
def xTt{f:FuncId}{H:Hp}{x:V}{nl nl':Bool}{l:aj}(hf:mL H x (lv 1 nl l))(hl:aA l=0)(h:gz f [lv 1 nl l,lv 1 nl' l] (.bool true)):KB Ya f [x,lv 1 nl' l] H=some (.ret (.bool true),H):=by
 obtain⟨r,h1,h2⟩:=zjS (S:=Ya) (f:=f) (args:=[x,lv 1 nl' l]) (H:=H) rfl
  (λd g w aM lc k1 k2 k3=>ze0 (gl:=L8) (v:=.bool true) (H':=⟨[],[]⟩) (dd:=0) rfl k1 k2 (ztK (_y:=x) hf hl) k3 λg' m1 m2 m3=>h 0 ⟨[],[]⟩ g' w aM lc (Rv m1) m2 m3)
 rw[show r=_ from h2] at h1;exact h1
def x21{H:Hp}{x:V}{l:aR}(hl:l.length<=maxLen)(hf:mL H x (oV l))(n:Nat):dH.fB n 21 [x,oV l] H=some (.ret (.bool true),H) :=
 xTt hf (oE l) (xc rfl EP (xs:=[oV l,oV l]) (by have:=ztw Kx l l hl;rw[decide_eq_true rfl] at this;exact this) (by simp[aA,zha]) rfl)
def x59{H:Hp}{x:V}{nl nl':Bool}{t:aR}(hl:t.length<=140737488351232)(hf:mL H x (zI nl t))(n:Nat):dH.fB n 59 [x,zI nl' t] H=some (.ret (.bool true),H) :=
 xTt hf (by have:=kB nl t;rw[zI,TQ] at this;exact this) (xc rfl EP (xs:=[zI nl t,zI nl' t]) (ztJ Kx nl nl' t hl) (by simp[aA,kB]) rfl)
end
def ig(l:aR):aj:=l.map λb=>V.int .u8 (b:Nat)
def xd(l:aR):(ig l).length=l.length:=by simp[ig]
def HE:C4 prog 34 5 1 1:=⟨by kernel_rfl,by kernel_rfl,by kernel_rfl,by decide,by kernel_rfl,by kernel_rfl,by kernel_rfl⟩
def z5':qO prog 5=some (.int .u8 0):=by kernel_rfl
def PN:∃i,prog.info? 5=some i/\i.bytes=1:=by
 have:(prog.info? 5).map (·.bytes)=some 1:=by kernel_rfl
 simpa using this
def Ac:∀a:aR,(dr (ig a)).map aX=ig a
 | []=>rfl
 | x::a=>by
  have:=Ac a;simp only[ig,iC,dr,V.cells,iQ,gF] at this ⊢;rw[this];rfl
def Ad:∀a:aR,aA (ig a)=0
 | []=>rfl
 | x::a=>by simp only[ig,iC,aA];exact Ad a
def zla(l:aR):(ig l).all (λc=>!(locked c))=true:=by
 rw[Cf];intro c hc;obtain⟨y,_,rfl⟩:=r7.1 hc;rfl
def zqw{env:aj}{H:Hp}{lk:aC}{df:aV}{b len cap:Nat}{l a:aR}{y:V}(hb:H.get b=some (.cells (ig l) 5))(hc:l.length=cap)(hy:kE prog H 5 y=some (ig a))(h:len+a.length<=cap) :
  Lz prog 34 env H lk df (some y) (some (.sr b 0 len cap))=some (.val (.sr b 0 (len+a.length) cap),⟨env,H.set b (.cells (ig (l.take len++a++l.drop (len+a.length))) 5),lk,df⟩):=by
 have hi:=HE.i;cases He:prog.info? 5 with
 | none=>rw[He] at hi;cases hi
 | some ti =>
  rw[He] at hi;simp only[cG] at hi;cases hz:ti.zero with
  | none=>rw[hz] at hi;cases hi
  | some z =>
   rw[hz] at hi;simp only[cA,aO,bP] at hi;have e1:(!Nat.beq z.cells.size 1 || Nat.beq 1 0)=false:=by rw[hi.1];rfl
   have e2:Nat.beq ((dr (ig a)).map aX).length (ig a).length=true:=by rw[Ac];exact pP _
   have e3:Nat.ble (len+a.length) cap=true:=HK h;have e4:Nat.ble (len+a.length) (ig l).length=true:=by rw[xd,hc];exact e3
   have e5:wK lk b len a.length ((ig l).drop len)=true:=w9 (zla l) (by rw[xd];omega)
   have e6:Vm.storeCells (ig l) len (ig a)=ig (l.take len++a++l.drop (len+a.length)):=by
    have:=ji (ig a) (ig ((l.drop len).take a.length)) (ig (l.take len)) (ig (l.drop (len+a.length))) (by rw[xd,xd];simp;omega)
    rw[xd,tR,NC (by omega)] at this
    have e:l=l.take len++(l.drop len).take a.length++l.drop (len+a.length):=by
     rw[nI,<- List.drop_drop,Cy,Cy]
    conv=>lhs;arg 1;rw[e]
    simp only[ig,List.map_append] at this ⊢;exact this
   simp only[Lz,HE.u,HE.s,He,hz,hy,hb,Option.bind_eq_bind,cG,e1,bH,aZ,xd,e3,pP,ug,Ac,e5,e6];rw[xd] at e4;rw[e4];simp only[oP,aT];rw[qR (by simp only[V.top];exact Ad a)]
def zsB{cx:Cx}{takes:bA}{dst:eC}{type:ai}{pos:String}{after:Array Edge}{guard:i_}{env:aj}{H:Hp}{lk:aC}{df:aV}{lo co:aH}{k:Nat}(hP:cx.P=prog)(hu:cx.uq 5=true)(hl:aq env lo=some (.int .i64 0))(hc:aq env co=some (.int .i64 (k:Int)))(hk:0<k)(fB:k<=140737488355328) :
  cx.op takes ⟨dst,.makeSlice 34 lo co,type,pos,after,guard⟩ env H lk df=some (.val (.sr H.af.length 0 0 k),⟨env,H.push (.cells (ig (List.replicate k 0)) 5),lk,df⟩):=by
 obtain⟨inf,Dj,ER⟩:=PN;have e1:jJ k inf.bytes=true:=by rw[ER];exact gR (by omega) fB
 have e2:Nat.blt 0 k=true:=HK hk;have e3:¬((k:Int)<0):=by omega
 have e4:ig (List.replicate k 0)=List.replicate k (V.int .u8 0):=by simp[ig]
 have e5:Nat.beq 1 0=false:=rfl;have e6:eF (V.int .u8 0)=true:=rfl;simp[Cx.op,hP,HE.u,HE.s,Dj,z5',hu,hl,hc,e1,e2,e3,e4,e5,e6,dD,qh,qb,V.cells]
def Nu{f:FuncId}(h:[10,12,13,27,29,30,31,34].any (Nat.beq f)=false)(args:aj):dH.hk f args=none:=iz J4 h
def yo{env:aj}{t a b c d:Nat}:jj env t (some (.sr a b c d))=some (.sr a b c d,env):=rfl
def zsC{k:Int}:OZ prog 34 (some (.int .u8 k))=some (.sl 1 [.int .u8 k] (.yes 5)):=HE.bsl rfl rfl
def zsD{n:Nat}{bs:List aN}{es:aC}{nl:Bool}{t:aR}(nu:t.length<=140737488351232)(hn:7<n) :
  zl prog dH (n+1) 28 [zI nl t] ⟨bs,es⟩=some (.ret (.sr bs.length 0 t.length (t.length+7)),⟨bs++[.cells (ig (t++List.replicate 7 165)) 5],es⟩):=by
 suffices eG:go ⟨prog,dH.g,zl prog dH n,dH.uq⟩ n (Fx prog f28.results.toList λu H1=>u=.sr bs.length 0 t.length (t.length+7)/\H1=⟨bs++[.cells (ig (t++List.replicate 7 165)) 5],[]⟩) [.c (f28.body.getD .skip)] .normal ⟨[zI nl t]++List.replicate 22 (.bx []),⟨bs,[]⟩,[],[]⟩ by
  obtain⟨u,H1,h1,rfl,rfl⟩:=jm (gl:=dH) (f:=28) (bs:=bs) (es:=es) (args:=[zI nl t]) (n:=n) (Nu rfl _) (λH=>rfl) func28 rfl eG;rw[h1];have:Nat.ble (V.sr bs.length 0 t.length (t.length+7)).top bs.length=false:=by
   cases hb:Nat.ble (V.sr bs.length 0 t.length (t.length+7)).top bs.length with
   | false=>rfl
   | true=>have:=pO hb;simp only[V.top] at this;omega
  unfold ql;simp only[this,G3,bH,aZ,gF]
 have PO:CB prog dH.uq 34=true:=by kernel_rfl
 have hu5:dH.uq 5=true:=rfl;have To:kE prog ⟨bs++[.cells (ig (List.replicate (t.length+7) 0)) 5],[]⟩ 5 (zI nl t)=some (ig t):=by
  rcases Sx.gr 1 nl (t.map λb=>V.int .u8 (b:Nat)) with h|⟨h0,h⟩<;>rw[zI,h]
  ·simp[kE,HE.s,ig]
  ·rw[show t=[] by simpa using h0];rfl
 have cU:∀(x:aN),Hp.get ⟨bs++[x],[]⟩ bs.length=some x:=λx=>by simp[Hp.get,zf]
 have iH:∀(x y:aN),Hp.set ⟨bs++[x],[]⟩ bs.length y=⟨bs++[y],[]⟩:=λx y=>by simp[Hp.set]
 have PR:=λenv=>zqw (env:=env) (lk:=[]) (df:=[]) (len:=0) (cap:=t.length+7) (cU _) (by simp) To (by omega)
 simp only[eM,List.take_zero,gF,iH,List.drop_replicate] at PR;rw[show t.length+7 - t.length=7 by omega] at PR
 have hb7:∀x y,j6 prog .add 3 x y (some (.int .i64 t.length)) (some (.int .i64 7))=some (.int .i64 ((t.length+7:Nat):Int)):=λx y=>ziD (b:=7) (by omega)
 simp only[f28,tS,zc];refine ze ?_;simp only[BA,cM,cN,List.replicate];refine ze ?_;simp only[BA,zb,zg,cM,cN,zS,xL,hb7];rw[zsB (k:=t.length+7) rfl hu5 (by rfl) (by rfl) (by omega) (by omega)]
 simp only[BA,qc,zb,zg,cM,cN,yo];refine y5 (tk:=[9]) (by kernel_rfl) ?_
 simp only[BA,Nat.reduceEqDiff,zb,zg,cM,cN,yo,zS,jt,vY (cx:=⟨prog,dH.g,zl prog dH n,dH.uq⟩) PO,PR];refine ze ?_;simp only[BA,cM,cN]
 refine km (λm s=>∃k env,m+k=7/\s=⟨env,⟨bs++[.cells (ig (t++(List.replicate k 165++List.replicate (7 - k) 0))) 5],[]⟩,[],[]⟩/\env.length=23/\nth env 0=some (zI nl t)/\nth env 3=some (.sr bs.length 0 (t.length+k) (t.length+7))/\nth env 4=some (.int .i64 (k:Nat))) 7 hn ⟨0,_,rfl,rfl,rfl,rfl,rfl,rfl⟩ ?_;rintro m s ⟨k,env,Ck,rfl,aW,e0,e3,e4⟩;simp only[zc];refine ze ?_
 simp only[BA,Nat.reduceEqDiff,za,cI,Nat.reduceLT,aZ,e4,aW,jr]
 by_cases hk:k<7
 ·refine .inl ⟨by simp;omega,?_⟩
  have PS:=λenv=>zqw (env:=env) (lk:=[]) (df:=[]) (len:=t.length+k) (cap:=t.length+7) (l:=t++(List.replicate k 165++List.replicate (7 - k) 0)) (a:=[165]) (y:=.sl 1 [.int .u8 165] .no) (cU _) (by simp;omega) (by simp[kE,HE.s,ig]) (by simp;omega)
  have Aj:(t++(List.replicate k 165++List.replicate (7 - k) 0)).take (t.length+k)++[165]++(t++(List.replicate k 165++List.replicate (7 - k) 0)).drop (t.length+k + [165].length)=t++(List.replicate (k+1) 165++List.replicate (7 - (k+1)) 0):=by
   have e1:t++(List.replicate k 165++List.replicate (7 - k) 0)=(t++List.replicate k 165)++(0::List.replicate (7 - (k+1)) 0):=by
    rw[<- List.replicate_succ,nI,show 7 - (k+1)+1=7 - k by omega]
   have e2:t.length+k=(t++List.replicate k 165).length:=by simp
   rw[e1,List.take_left' e2.symm,fY,List.length_nil,e2,<- List.drop_drop,List.drop_left];simp[List.replicate_succ']
  rw[Aj] at PS;simp only[iH,fY,List.length_nil,eM] at PS;have gI:∀x,aX (V.sl 1 [x] (.yes 5))=.sl 1 [x] .no:=λ_=>rfl
  try simp only[bC,zc,zU]
  refine y5 (tk:=[16]) (by kernel_rfl) ?_
  simp only[BA,Nat.reduceEqDiff,za,cI,Nat.reduceLT,aZ,e3,aW,jt,yo,gI,zsC,vY (cx:=⟨prog,dH.g,zl prog dH n,dH.uq⟩) PO,PS];refine ze ?_;simp only[BA,Nat.reduceEqDiff,za,cI,Nat.reduceLT,aZ,e4,aW,qf (show k<2 ^ 60 by omega),zo,bL]
  refine⟨m - 1,by omega,k+1,_,by omega,rfl,?_,?_,?_,?_⟩
  ·simp[aW]
  ·simp[za,e0]
  ·simp[za,aW]
  ·simp[za,aW]
 ·refine .inr ⟨by simp;omega,?_⟩
  obtain rfl:k=7:=by omega
  have pN:M1 prog 34=M1 prog 34:=rfl;simp only[jY,q8,qB,zo,dV,zc,pP,aT,zo];refine ze ?_;simp only[BA,Nat.reduceEqDiff,za,cI,Nat.reduceLT,aZ,e0,e3,aW,jt,zS,xL,zeV (cx:=⟨prog,dH.g,zl prog dH n,dH.uq⟩) PO]
  have pN:∀(env:aj)(H:Hp)(lk:aC)(df:aV),M1 prog 34 env H lk df (some (.sr bs.length 0 (t.length+7) (t.length+7))) (some none) (some (some (.int .i64 t.length)))=some (.val (.sr bs.length 0 t.length (t.length+7)),⟨env,H,lk,df⟩):=λenv H lk df=>by
   simp[M1,yp,HE.u,HE.s,jL]
  simp only[d_,aq,za,cI,aW,Nat.reduceLT,aT,aZ,Nat.reduceEqDiff,zB,pN,au,aI,zi,zt,ah,zh,yo,zn]
  simp only[go_ret,zo,Fx]
  refine⟨trivial,[.sr bs.length 0 t.length (t.length+7)],?_,rfl,rfl⟩;simp[zG,za,aW]
def zf8{gl:Gl}{n:Nat}{f:FuncId}{args:aj}{H:Hp}{r:Out×Hp}(h:gl.hk f args=none)(h2:gl.fB n f args H=some r):zl prog gl (n+1) f args H=some r:=by
 obtain⟨bs,es⟩:=H;unfold zl;rw[h,h2]
def zhq{H:Hp}{b cap:Nat}{t r:aR}(hb:H.af[b]?=some (.cells (ig (t++r)) 5)):mL H (.sr b 0 t.length cap) (zI false t):=by
 have:=mL.sr (off:=0) (len:=t.length) (cap:=cap) hb (Ad _) (by simp[ig])
 rw[E0] at this;have e:(ig (t++r)).take t.length=ig t:=by rw[ig,List.map_append,List.take_left' (by simp)];rfl
 rw[e] at this;exact this
def zsE{b n cap k:Nat}(h:k<n):zO prog 34 (.sr b 0 n cap) (k:Int)=some (.ptr b k):=by
 simp[zO,sz5,h]
def zlb{H:Hp}{b off n cap:Nat}:jM prog H 34 (.sr b off n cap)=some (n:Int):=by simp[jM]
def ld5{bs:List aN}{es:aC}{g:Nat->Nat->bS}{b i x:Nat}{l:aR}(hb:nth bs b=some (.cells (ig l) 5))(hi:l[i]?=some x):zA prog ⟨bs,es⟩ g 5 (.ptr b i)=some (.int .u8 (x:Nat)):=by
 have:nth (ig l) i=some (.int .u8 (x:Nat)):=by rw[zf,ig,pH,hi];rfl
 exact zM XC hb this
def ztL{bs:List aN}{b i x:Nat}{l:aR}{env:aj}{lk:aC}{df:aV}(h:nth bs b=some (.cells (ig l) 5))(hi:i<l.length) :
  qV prog 5 ⟨bs,[]⟩ lk df (some (.int .u8 (x:Nat),env)) (some (.ptr b i))=some (.skip,⟨env,⟨bs.set b (.cells (ig (l.set i x)) 5),[]⟩,lk,df⟩):=by
 have hle:i+1<=(ig l).length:=by rw[xd];omega
 rw[jn sz5 (H:=⟨bs,[]⟩) h rfl rfl hle (w9 (zla l) hle),qR rfl];have:Vm.storeCells (ig l) i (V.int .u8 (x:Nat)).laid=ig (l.set i x):=by simp[V.laid,Vm.storeCells,ig,List.map_set]
 rw[this];rfl
def zsF{n:Nat}{bs:List aN}{es:aC}{b:Nat}{nl:Bool}{t:aR}(hb:nth bs b=some (.cells (ig (t++List.replicate 7 165)) 5))(nu:t.length<=140737488351232)(hn:t.length+8<n) :
  ∃bs',zl prog dH (n+1) 32 [.sr b 0 t.length (t.length+7),zI nl t] ⟨bs,es⟩=some (.ret (.bool true),⟨bs',es⟩)/\bs'.length=bs.length/\∀i,i≠b->nth bs' i=nth bs i:=by
 suffices eG:go ⟨prog,dH.g,zl prog dH n,dH.uq⟩ n (Fx prog f32.results.toList λu H1=>u=.bool true/\∃bs',H1=⟨bs',[]⟩/\bs'.length=bs.length/\∀i,i≠b->nth bs' i=nth bs i) [.c (f32.body.getD .skip)] .normal ⟨[.sr b 0 t.length (t.length+7),zI nl t]++List.replicate 41 (.bx []),⟨bs,[]⟩,[],[]⟩ by
  obtain⟨u,H1,h1,rfl,bs',rfl,h3,h4⟩:=jm (gl:=dH) (f:=32) (bs:=bs) (es:=es) (args:=[.sr b 0 t.length (t.length+7),zI nl t]) (n:=n) (Nu rfl _) (λH=>rfl) func32 rfl eG;exact⟨bs',by rw[h1];exact congrArg some (congrArg (Prod.mk _) (zJ h3.symm (dJ _))),h3,h4⟩
 have PO:CB prog dH.uq 34=true:=by kernel_rfl
 have hb7:∀x y,j6 prog .add 3 x y (some (.int .i64 t.length)) (some (.int .i64 7))=some (.int .i64 ((t.length+7:Nat):Int)):=λx y=>ziD (b:=7) (by omega)
 have pN:∀(env:aj)(H:Hp)(lk:aC)(df:aV),M1 prog 34 env H lk df (some (.sr b 0 t.length (t.length+7))) (some none) (some (some (.int .i64 ((t.length+7:Nat):Int))))=some (.val (.sr b 0 (t.length+7) (t.length+7)),⟨env,H,lk,df⟩):=λenv H lk df=>by
  simp only[M1,yp,HE.u,HE.s,jL,Option.bind_eq_bind,cG];rw[if_pos (by omega),rM,cG,if_pos (by omega)]
  simp
 have c59:Cx.cX ⟨prog,dH.g,zl prog dH n,dH.uq⟩ 59 [.sr b 0 t.length (t.length+7),zI nl t] ⟨bs,[]⟩=some (.val (.bool true),⟨bs,[]⟩):=by
  obtain⟨m,rfl⟩:∃m,n=m+1:=⟨n - 1,by omega⟩
  exact zR func59 rfl (zf8 (Nu rfl _) (x59 (nl:=false) (nl':=nl) nu (zhq (r:=List.replicate 7 165) (by rw[<- zf];exact hb)) m))
 simp only[f32,tS,zc];refine ze ?_;simp only[BA,cM,cN,List.replicate];refine ze ?_;simp only[BA,zb,zg,cM,cN,jt,zS,c59];refine ze ?_;simp only[BA,zb,zg,cM,cN,jt,zS,yo,xL,hb7,zeV (cx:=⟨prog,dH.g,zl prog dH n,dH.uq⟩) PO,d_,pN];refine ze ?_;simp only[BA,zb,zg,cM,cN,zS,xL]
 refine km (λm s=>∃k env,m+k=7/\s=⟨env,⟨bs,[]⟩,[],[]⟩/\env.length=43/\nth env 5=some (.bool true)/\nth env 6=some (.sr b 0 (t.length+7) (t.length+7))/\nth env 7=some (.int .i64 ((t.length+k:Nat):Int))) 7 (by omega) ⟨0,_,rfl,rfl,rfl,rfl,rfl,rfl⟩ ?_
 rintro m s ⟨k,env,Ck,rfl,aW,e5,e6,e7⟩;simp only[zc];refine ze ?_;simp only[BA,Nat.reduceEqDiff,za,cI,Nat.reduceLT,aZ,e6,e7,aW,jt,zlb,jr]
 by_cases hk:k<7
 ·refine .inl ⟨by simp;omega,?_⟩
  have hx:(t++List.replicate 7 165)[t.length+k]?=some 165:=by
   rw[nN (by omega),List.getElem?_replicate,if_pos (by omega)]
  have sM:=zsE (b:=b) (n:=t.length+7) (cap:=t.length+7) (k:=t.length+k) (by omega)
  have lz:=λes g=>ld5 (es:=es) (g:=g) hb hx;have heq:∀x y,j6 prog .eql 5 x y (some (.int .u8 ((165:Nat):Int))) (some (.int .u8 165))=some (.bool true):=λx y=>by rw[qE];rfl
  try simp only[bC,zc,zU]
  refine ze ?_;simp only[BA,Nat.reduceEqDiff,za,cI,Nat.reduceLT,aZ,zb,zg,jb,zF,qa,fq,kZ,e5,e6,e7,aW,jt,sM,lz,heq];refine ze ?_;simp only[BA,Nat.reduceEqDiff,za,cI,Nat.reduceLT,aZ,e7,aW,qf (show t.length+k<2 ^ 60 by omega),zo,bL]
  refine⟨m - 1,by omega,k+1,_,by omega,rfl,?_,?_,?_,?_⟩
  ·simp[aW]
  ·simp[za,aW]
  ·simp[za,e6]
  ·simp[za,aW]
 ·refine .inr ⟨by simp;omega,?_⟩
  simp only[jY,q8,qB,zo,dV,zc,pP,aT,zo];refine ze ?_;simp only[BA]
  refine km (λm s=>∃k env bs' l,m+k=t.length+7/\s=⟨env,⟨bs',[]⟩,[],[]⟩/\env.length=43/\nth env 5=some (.bool true)/\nth env 6=some (.sr b 0 (t.length+7) (t.length+7))/\nth env 8=some (.int .i64 (k:Nat))/\nth bs' b=some (.cells (ig l) 5)/\l.length=t.length+7/\bs'.length=bs.length/\∀i,i≠b->nth bs' i=nth bs i) (t.length+7) (by omega) ⟨0,_,bs,_,rfl,rfl,?_,?_,?_,?_,hb,by simp,rfl,λ_ _=>rfl⟩ ?_
  ·simp[aW]
  ·simp[za,e5]
  ·simp[za,e6]
  ·simp[za,aW]
  clear aW e5 e6 e7 env hb hk Ck k;rintro m s ⟨k,env,bs',l,Ck,rfl,aW,e5,e6,e8,hb,hl,lU,ey⟩;simp only[zc];refine ze ?_;simp only[BA,Nat.reduceEqDiff,za,cI,Nat.reduceLT,aZ,e6,e8,aW,jt,zlb,jr]
  by_cases hk:k<t.length+7
  ·refine .inl ⟨by simp;omega,?_⟩
   have sM:=zsE (b:=b) (n:=t.length+7) (cap:=t.length+7) (k:=k) (by omega)
   have b8:=λenv lk df=>ztL (x:=90) (env:=env) (lk:=lk) (df:=df) hb (i:=k) (by omega)
   simp only[show((90:Nat):Int)=90 from rfl] at b8;have bu:b<bs'.length:=kQ (H:=⟨bs',[]⟩) hb
   try simp only[bC,zc,zU]
   refine ze ?_;simp only[BA,Nat.reduceEqDiff,za,cI,Nat.reduceLT,aZ,e6,e8,aW,jt,sM,b8];refine ze ?_;simp only[BA,Nat.reduceEqDiff,za,cI,Nat.reduceLT,aZ,e8,aW,qf (show k<2 ^ 60 by omega),zo,bL]
   refine⟨m - 1,by omega,k+1,_,_,l.set k 90,by omega,rfl,?_,?_,?_,?_,qw bu,by simp[hl],by simp[lU],λi hi=>(z8 (Ne.symm hi)).trans (ey i hi)⟩
   ·simp[aW]
   ·simp[za,e5]
   ·simp[za,e6]
   ·simp[za,aW]
  ·refine .inr ⟨by simp;omega,?_⟩
   simp only[jY,q8,qB,zo,dV,zc,pP,aT,zo];refine ze ?_;simp only[BA,Nat.reduceEqDiff,za,cI,Nat.reduceLT,aZ,e5,aW];simp only[go_ret,zo,Fx]
   refine⟨trivial,[.bool true],?_,rfl,bs',rfl,lU,ey⟩;simp[zG,za,aW]
def iL(l:List Int):aj:=l.map λk=>V.int .i64 k
def Nv(l:List Int):(iL l).length=l.length:=by simp[iL]
def ztM{cx:Cx}{takes:bA}{dst:eC}{type:ai}{pos:String}{after:Array Edge}{guard:i_}{env:aj}{H:Hp}{lk:aC}{df:aV}(hP:cx.P=prog){a b c:Int} :
  cx.op takes ⟨dst,.buildSlice 36 3 #[(0,.const (.int .i64 a)),(1,.const (.int .i64 b)),(2,.const (.int .i64 c))],type,pos,after,guard⟩ env H lk df=some (.val (.sl 1 (iL [a,b,c]) (.yes 3)),⟨env,H,lk,df⟩):=by
 have hz:qO prog 3=some (.int .i64 0):=by kernel_rfl
 have e1:eF (V.int .i64 0)=true:=rfl;have e2:∀k,eF (V.int .i64 k)=true:=λ_=>rfl;have e3:∀k,(V.int .i64 k).cells.length=1:=λ_=>rfl;simp[Cx.op,hP,qi,Jr.u,Jr.s,hz,e1,e2,e3,DM,aq,aF,zQ,eV,Nat.blt,List.replicate,iL]
def ztN{b u n k:Nat}(h:k<n):zO prog 36 (.fA b u n) (k:Int)=some (.ny b u k):=by
 simp[zO,Jr.u,Jr.s,h]
def zrt{H:Hp}{b u n:Nat}:jM prog H 36 (.fA b u n)=some (n:Int):=by simp[jM,Jr.u]
def ztO{bs:List aN}{b u k:Nat}{x:Int}{l:List Int}{env:aj}{lk:aC}{df:aV}(h:nth bs b=some (.ul u 1 (iL l) 3))(hi:k<l.length) :
  qV prog 3 ⟨bs,[]⟩ lk df (some (.int .i64 x,env)) (some (.ny b u k))=some (.skip,⟨env,⟨bs.set b (.ul u 1 (iL (l.set k x)) 3),[]⟩,lk,df⟩):=by
 have hle:k+1<=(iL l).length:=by rw[Nv];omega
 have hg:Hp.get ⟨bs,[]⟩ b=some (.ul u 1 (iL l) 3):=h;have e:Vm.storeCells (iL l) k [V.int .i64 x]=iL (l.set k x):=by simp[Vm.storeCells,iL,List.map_set]
 simp only[qV,Jr.s,hg];rw[if_pos ⟨trivial,rfl,rfl,hle⟩];simp only[aX,V.cells,e];rw[qR rfl];rfl
def ztP{bs:List aN}{c:V}{a:List Int}(ha:a.length=3)(h:c=.aU\/∃b bZ l,c=.fA b bZ l.length/\nth bs b=some (.ul bZ 1 (iL l) 3)/\l.length<=70000) :
  ∃j u l B,(∀(env:aj)(lk:aC)(df:aV)(o:Vm.Own),Lz prog 36 env ⟨bs,[]⟩ lk df (some (.sl 1 (iL a) o)) (some c)=some (.val (.fA j u l.length),⟨env,⟨B,[]⟩,lk,df⟩))/\nth B j=some (.ul u 1 (iL l) 3)/\bs.length<=B.length/\l.length<=70003/\∀i,i<bs.length->(∀bZ len,c≠.fA i bZ len)->i≠j/\nth B i=nth bs i:=by
 have cg:iL a≠[]:=λe=>by have:=congrArg List.length e;rw[Nv,ha] at this;cases this
 have nT:dr (iL a)=iL a:=by
  clear cg ha
  induction a with
  | nil=>rfl
  | cons x a ih=>simp only[iL,iC,dr,V.cells] at ih ⊢;rw[ih];rfl
 rcases h with rfl|⟨b,bZ,l,rfl,hb,hl⟩
 ·refine⟨bs.length,0,a,bs++[.ul 0 1 (iL a) 3],λenv lk df o=>?_,?_,by simp,by omega,λi hi _=>⟨by omega,?_⟩⟩
  ·rw[Jr.app (xs:=[]) (i:=none) cg ⟨rfl,rfl⟩ (gR (by simp[Nv,ha]) (by simp[Nv,ha])),nT,Nv];rfl
  ·rw[zf,nN (bV _)];simp
  ·rw[zf,zf,nH hi]
 ·have hint:∀l:List Int,(l.map λk=>[V.int .i64 k]).flatten=iL l:=λl=>by induction l with
   | nil=>rfl
   | cons a l ih=>simp only[iC,List.flatten_cons,ih,iL];rfl
  have hUL:UL ⟨bs,[]⟩ 1 3 (.fA b bZ l.length) (some b) (l.map λk=>[V.int .i64 k]):=⟨bZ,by simp,by rw[hint];exact hb⟩
  have bu:b<bs.length:=kQ (H:=⟨bs,[]⟩) hb;refine⟨b,bZ+1,l++a,bs.set b (.ul (bZ+1) 1 (iL (l++a)) 3),λenv lk df o=>?_,qw bu,by simp,by simp[ha];omega,λi hi hn=>?_⟩
  ·rw[Jr.app (i:=some b) cg hUL (gR (by simp[Nv,ha];omega) (by simp[Nv,ha];omega))]
   simp only[hint,oO,nT,Nv,oI];have ht:(V.bx (iL a)).top=0:=by
    simp only[V.top];clear cg ha nT
    induction a with
    | nil=>rfl
    | cons x a ih=>simp only[iL,iC,aA] at ih ⊢;rw[ih];rfl
   rw[qR ht];have:iL l++iL a=iL (l++a):=by simp[iL]
   rw[this];rfl
  ·have:i≠b:=λe=>hn bZ l.length (by rw[e])
   exact⟨this,z8 (Ne.symm this)⟩
def zsG{n:Nat}{bs:List aN}{es:aC}{c:V}(h:c=.aU\/∃b bZ l,c=.fA b bZ l.length/\nth bs b=some (.ul bZ 1 (iL l) 3)/\l.length<=70000)(hn:70003<n) :
  ∃bs',zl prog dH (n+1) 33 [c] ⟨bs,es⟩=some (.ret (.bx []),⟨bs',es⟩)/\bs'.length=bs.length/\∀i,(∀bZ len,c≠.fA i bZ len)->nth bs' i=nth bs i:=by
 suffices eG:go ⟨prog,dH.g,zl prog dH n,dH.uq⟩ n (Fx prog f33.results.toList λu H1=>u=.bx []/\∃B,H1=⟨B,[]⟩/\bs.length<=B.length/\∀i,i<bs.length->(∀bZ len,c≠.fA i bZ len)->nth B i=nth bs i) [.c (f33.body.getD .skip)] .normal ⟨[c]++List.replicate 14 (.bx []),⟨bs,[]⟩,[],[]⟩ by
  obtain⟨u,H1,h1,rfl,B,rfl,h3,h4⟩:=jm (gl:=dH) (f:=33) (bs:=bs) (es:=es) (args:=[c]) (n:=n) (Nu rfl _) (λH=>rfl) func33 rfl eG;refine⟨B.take bs.length,?_,by simp;omega,λi hi=>?_⟩
  ·rw[h1];have:=qG (bs:=B.take bs.length) (ls:=B.drop bs.length) (es:=es) (t:=0) (dJ _);rw[Cy,tR,NC h3] at this;exact congrArg some (congrArg (Prod.mk _) this)
  ·by_cases hl:i<bs.length
   ·rw[<- h4 i hl hi,zf,zf,Bk,if_pos hl]
   ·rw[zf,zf,tE (by simp;omega),tE (by omega)]
 have PO:CB prog dH.uq 36=true:=by kernel_rfl
 obtain⟨j,u,l,B,PS,hB,hlB,hl,ey⟩:=ztP (a:=[1,2,3]) rfl h;have PS:=λenv=>PS env [] [] .no;have lX:aX c=c/\∀env t,jj env t (some c)=some (c,env):=by
  rcases h with rfl|⟨b,bZ,l,rfl,_⟩<;>exact⟨rfl,λ_ _=>rfl⟩
 have gI:aX (V.sl 1 (iL [1,2,3]) (.yes 3))=.sl 1 (iL [1,2,3]) .no:=rfl;simp only[f33,tS,zc];refine y5 (tk:=[3]) (by kernel_rfl) ?_
 simp only[BA,zb,zg,cM,cN,List.replicate,lX.1,lX.2,ztM (cx:=⟨prog,dH.g,zl prog dH n,dH.uq⟩) rfl,gI,vY (cx:=⟨prog,dH.g,zl prog dH n,dH.uq⟩) PO,PS];refine ze ?_;simp only[BA,cM,cN]
 refine km (λm s=>∃k env B' l',m+k=l.length/\s=⟨env,⟨B',[]⟩,[],[]⟩/\env.length=15/\nth env 0=some (.fA j u l.length)/\nth env 2=some (.int .i64 (k:Nat))/\nth B' j=some (.ul u 1 (iL l') 3)/\l'.length=l.length/\bs.length<=B'.length/\∀i,i<bs.length->(∀bZ len,c≠.fA i bZ len)->nth B' i=nth bs i) l.length (by omega) ⟨0,_,B,l,rfl,rfl,rfl,rfl,rfl,hB,rfl,hlB,λi hi hc=>(ey i hi hc).2⟩ ?_
 rintro m s ⟨k,env,B',l',Ck,rfl,aW,e0,e2,hb,Ct,hlb,hf⟩;simp only[zc];refine ze ?_;simp only[BA,Nat.reduceEqDiff,za,cI,Nat.reduceLT,aZ,e0,e2,aW,zrt,jr]
 by_cases hk:k<l.length
 ·refine .inl ⟨by simp;omega,?_⟩
  have sM:=ztN (b:=j) (u:=u) (n:=l.length) (k:=k) hk;have b8:=λenv lk df=>ztO (x:=-99) (env:=env) (lk:=lk) (df:=df) hb (k:=k) (by omega)
  have bu:j<B'.length:=kQ (H:=⟨B',[]⟩) hb
  try simp only[bC,zc,zU]
  refine ze ?_;simp only[BA,Nat.reduceEqDiff,za,cI,Nat.reduceLT,aZ,e0,e2,aW,sM,b8];refine ze ?_;simp only[BA,Nat.reduceEqDiff,za,cI,Nat.reduceLT,aZ,e2,aW,qf (show k<2 ^ 60 by omega),zo,bL]
  refine⟨m - 1,by omega,k+1,_,_,l'.set k (-99),by omega,rfl,?_,?_,?_,qw bu,by simp[Ct],by simp[hlb],λi hi hc=>(z8 (Ne.symm (ey i hi hc).1)).trans (hf i hi hc)⟩
  ·simp[aW]
  ·simp[za,e0]
  ·simp[za,aW]
 ·refine .inr ⟨by simp;omega,?_⟩
  simp only[jY,q8,qB,zo,dV,pP,aT,zo];simp only[Fx];exact⟨trivial,[],rfl,rfl,B',rfl,hlb,hf⟩
section
def z69:qO prog 69=some (wd 0):=by kernel_rfl
def sS:qA prog 30 0=some 0:=by kernel_rfl
def Cd:qA prog 30 1=some 10:=by kernel_rfl
def adh:z9 prog 22=some 1:=by kernel_rfl
def adi:jI prog 22=some false:=by kernel_rfl
def adj:jI prog 28=some false:=by kernel_rfl
def adk:jI prog 34=some false:=by kernel_rfl
def adl:jI prog 69=some true:=by kernel_rfl
def U3:z9 prog 69=some 5:=by kernel_rfl
def adm:z9 prog 34=some 1:=by kernel_rfl
def zsH{x y:aH}{s:fS}:j6 prog .neq 24 x y (some (bI s)) (some (bI s))=some (.bool false):=by
 obtain⟨a,b,c,d⟩:=s;have u24:prog.underlying 24=some (.array 4 22):=by kernel_rfl
 simp[j6,jK,kF,vn,bI,ov,u24,adh,J_,Ch,kL,adi,nth,Kk]
def zsI{H:Hp}{g:Nat->Nat->bS}{b:Nat}{c:Int}(h:H.get b=some (.cells (wd c).cells 69)):zA prog H g 69 (.ptr b 0)=some (wd c):=vd adl U3 h (show 0+5<=5 by decide)
def Ry{H:Hp}{g:Nat->Nat->bS}{b:Nat}{e:E}{r:aj}{ty:ai}(h:H.get b=some (.cells (aE e++r) ty)):zA prog H g 27 (.ptr b 0)=some (.agg (aE e)):=by
 rw[vd Jm C7 h (by rw[oI,qC];omega),E0,List.take_left' (qC e)]
def ztQ{H:Hp}{g:Nat->Nat->bS}{b:Nat}{e:E}{x:V}{ty:ai}(h:H.get b=some (.cells (aE e++[x]) ty)):zA prog H g 28 (.ptr b 10)=some x:=by
 refine zM adj h ?_;rw[zf,nN (by rw[qC];omega),qC];rfl
def zox{H:Hp}{nl:Bool}{l:List Tx}:jM prog H 28 (xO nl l)=some (l.length:Int):=by
 rcases Sx.gr 1 nl (l.map AK) with h|⟨h0,h⟩<;>rw[xO,h]
 ·simp[jM]
 ·have:l=[]:=by simpa using h0
  subst this;simp[jM]
def zsJ{nl:Bool}{l:List Tx}{k:Nat}{p:Tx}(h:l[k]?=some p):zO prog 28 (xO nl l) (k:Int)=some (.vp [AK p]):=by
 have hk:¬((k:Int)<0):=by omega
 have hn:nth (l.map AK) k=some (AK p):=by rw[zf,pH,h];rfl
 have hc:(AK p).cells=[AK p]:=by
  obtain⟨a,t⟩:=p;cases t<;>cases a<;>rfl
 rcases Sx.gr 1 nl (l.map AK) with h'|⟨h0,_⟩
 ·rw[xO,h'];simp[zO,adm,hk,hn,hc]
 ·rw[h0] at hn;simp[nth] at hn
def zru{H:Hp}{g:Nat->Nat->bS}{v:V}:zA prog H g 34 (.vp [v])=some v:=by simp[zA,kL,adk,nth,Kk]
def zrv(p:Tx):aX (AK p)=AK p:=zS
def zsK{B:List aN}{c:Int}{env:aj}{lk:aC}{df:aV}:qV prog 69 ⟨B++[.cells (wd 0).cells 69],[]⟩ lk df (some (wd c,env)) (some (.ptr B.length 0))=some (.skip,⟨env,⟨B++[.cells (wd c).cells 69],[]⟩,lk,df⟩):=by
 have hg:Hp.get ⟨B++[.cells (wd 0).cells 69],[]⟩ B.length=some (.cells (wd 0).cells 69):=by simp[Hp.get,zf]
 rw[jn U3 hg rfl rfl (show 0+5<=5 by decide) rfl,qR rfl]
 simp only[Hp.set];rw[List.set_append_right _ _ (bV _),G4];rfl
def ztR{B:List aN}{s:fS}{env:aj}{lk:aC}{df:aV}:qV prog 24 ⟨B++[.cells (bI c_).cells 24],[]⟩ lk df (some (bI s,env)) (some (.ptr B.length 0))=some (.skip,⟨env,⟨B++[.cells (bI s).cells 24],[]⟩,lk,df⟩):=by
 have hg:Hp.get ⟨B++[.cells (bI c_).cells 24],[]⟩ B.length=some (.cells (bI c_).cells 24):=by simp[Hp.get,zf]
 rw[jn C6 hg rfl rfl (show 0+4<=4 by decide) rfl,qR rfl]
 simp only[Hp.set];rw[List.set_append_right _ _ (bV _),G4];rfl
def ztS{B:List aN}{e:E}{z:aj}(hz:z.length=10)(hu:z.all (λc=>!(locked c))=true){env:aj}{lk:aC}{df:aV}:qV prog 27 ⟨B++[.cells z 27],[]⟩ lk df (some (.agg (aE e),env)) (some (.ptr B.length 0))=some (.skip,⟨env,⟨B++[.cells (aE e) 27],[]⟩,lk,df⟩):=by
 have hg:Hp.get ⟨B++[.cells z 27],[]⟩ B.length=some (.cells z 27):=by simp[Hp.get,zf]
 have hl:(V.agg (aE e)).laid=aE e:=by simp only[V.laid];exact wx e
 rw[jn C7 hg rfl (by rw[hl];exact qC e) (by omega) (w9 hu (by omega)),qR (by simp only[V.top];exact ziN e),hl]
 have hs:Vm.storeCells z 0 (aE e)=aE e:=by
  have:=ji (aE e) z [] [] (by rw[hz,qC])
  simpa using this
 rw[hs];simp only[Hp.set];rw[List.set_append_right _ _ (bV _),G4];rfl
variable{n:Nat}
def xe{f:FuncId}{fn:Func}{bd:Code}{args:aj}{v:V}{H:Hp}(hf:prog.funcs[f]?=some fn)(hb:fn.body=some bd)(hn:1<=n)(h:dH.hk f args=some v):Cx.cX ⟨prog,dH.g,zl prog dH n,dH.uq⟩ f args H=some (.val v,H):=by
 obtain⟨m,rfl⟩:∃m,n=m+1:=⟨n - 1,by omega⟩
 exact zR hf hb (yM h)
def zhr{f:FuncId}{fn:Func}{bd:Code}{args:aj}{v:V}{H H':Hp}(hf:prog.funcs[f]?=some fn)(hb:fn.body=some bd)(hn:1<=n)(h:dH.hk f args=none)(h2:∀m,dH.fB m f args H=some (.ret v,H')):Cx.cX ⟨prog,dH.g,zl prog dH n,dH.uq⟩ f args H=some (.val v,H'):=by
 obtain⟨m,rfl⟩:∃m,n=m+1:=⟨n - 1,by omega⟩
 exact zR hf hb (zf8 h (h2 m))
def zsL(hn:1<=n){e:E}(he:oY e){H:Hp}:Cx.cX ⟨prog,dH.g,zl prog dH n,dH.uq⟩ 10 [.agg (aE e),.int .i64 0] H=some (.val (.int .i64 (fQ e 0)),H):=by
 refine xe func10 rfl hn ?_;rw[<- zV];exact j9 (en:=λe=>[enc e,.int .i64 0]) (Q:=oY) (F:=λe=>.int .i64 (fQ e 0)) (a:=e) (λa b ha hb h=>by rw[l_ a b ha.2 hb.2 (List.cons.inj h).1]) he
def zsM(hn:1<=n){H:Hp}:Cx.cX ⟨prog,dH.g,zl prog dH n,dH.uq⟩ 12 [] H=some (.val (.bool true),H) :=
 xe func12 rfl hn (show dH.hk 12 []=_ from j9 (en:=λ_:Unit=>[]) (Q:=λ_=>True) (F:=λ_=>.bool true) (a:=()) (λ_ _ _ _ _=>rfl) trivial)
def zsN(hn:1<=n)(p:Tx){H:Hp}:Cx.cX ⟨prog,dH.g,zl prog dH n,dH.uq⟩ 13 [AK p] H=some (.val (PL p),H) :=
 xe func13 rfl hn (show dH.hk 13 [AK p]=_ from j9 (en:=λp:Tx=>[AK p]) (Q:=λ_=>True) (F:=PL) (a:=p) (λ_a _b _ _ h=>zou h) trivial)
def zsO(hn:1<=n){e:E}(he:oY e)(hs:nodes e<=65536){H:Hp}:Cx.cX ⟨prog,dH.g,zl prog dH n,dH.uq⟩ 27 [.agg (aE e)] H=some (.val (.agg (aE (eL e))),H):=by
 refine xe func27 rfl hn ?_;rw[<- zV,<- zV,sR];exact j9 (en:=UH) (Q:=λe=>oY e/\nodes e<=65536) (F:=λe=>enc (eH e)) (a:=e) (λa b ha hb h=>by rw[l_ a b ha.1.2 hb.1.2 (List.cons.inj h).1]) ⟨he,hs⟩
def zqx(hn:1<=n){e:E}(he:oY e){H:Hp}:Cx.cX ⟨prog,dH.g,zl prog dH n,dH.uq⟩ 34 [.agg (aE (eL e)),.agg (aE e)] H=some (.val (.bool true),H):=by
 refine xe func34 rfl hn ?_;rw[<- zV,<- zV,sR];exact j9 (en:=λe=>[enc (eH e),enc e]) (Q:=oY) (F:=λ_=>.bool true) (a:=e) (λ_ _ _ _ _=>rfl) he
def zsP(hn:1<=n){e:E}{nl:Bool}{t:aR}(he:oY e)(hr:Rg e)(ht:∀b∈t,b<256)(hs:nodes e<=65536){H:Hp}:Cx.cX ⟨prog,dH.g,zl prog dH n,dH.uq⟩ 29 [.agg (aE e),zI nl t] H=some (.val (L5 e t),H):=by
 refine xe func29 rfl hn ?_;rw[<- zV];exact j9 (en:=PB) (Q:=X_) (F:=λp=>L5 p.1 p.2.2) (a:=(e,nl,t)) (λa b ha hb h=>i14 a b ha.1 hb.1 h) ⟨⟨he,hr,ht⟩,hs⟩
def zsQ(hn:1<=n){e:E}{nl:Bool}{t:aR}(he:oY e)(hr:Rg e)(ht:∀b∈t,b<256)(hs:nodes e<=65536){H:Hp}:Cx.cX ⟨prog,dH.g,zl prog dH n,dH.uq⟩ 30 [.agg (aE e),zI nl t] H=some (.val (L6 e t),H):=by
 refine xe func30 rfl hn ?_;rw[<- zV];exact j9 (en:=PB) (Q:=X_) (F:=λp=>L6 p.1 p.2.2) (a:=(e,nl,t)) (λa b ha hb h=>i14 a b ha.1 hb.1 h) ⟨⟨he,hr,ht⟩,hs⟩
def EX(b:Bool):V:=if b then .bq else Dc
def Ae(b:Bool):V:=wd (if b then 0 else 15)
def zsR(hn:1<=n){b:Bool}{H:Hp}:Cx.cX ⟨prog,dH.g,zl prog dH n,dH.uq⟩ 31 [EX b,Ae b] H=some (.val (.bool true),H):=by
 refine xe func31 rfl hn ?_;have:[EX b,Ae b]=L9 (!b):=by cases b<;>rfl
 rw[this];exact j9 (en:=L9) (Q:=λ_=>True) (F:=λ_=>.bool true) (a:=!b) (λ_ _ _ _ _=>rfl) trivial
structure U4(e:E)(t:aR)(H:Hp)(c:V)(B:List aN):Prop where
 aX:Vm.aX c=c
 take:∀env t,jj env t (some c)=some (c,env)
 top:c=.aU\/∃b bZ l,c=.fA b bZ l.length/\nth B b=some (.ul bZ 1 (iL l) 3)/\l.length<=70000/\H.af.length<=b
 frz:∀B' es,(∀i x,nth B i=some x->nth B' i=some x)->mL ⟨B',es⟩ c (oV (if e_ e t then q7 e t else []))
 len:H.af.length<=B.length
 get:∀i,i<H.af.length->nth B i=nth H.af i
def zsS(hn:1<=n){e:E}{nl:Bool}{t:aR}{bs:List aN}{b off len cap:Nat}(he:oY e)(hr:Rg e)(ht:∀b∈t,b<256)(hf:mL ⟨bs,[]⟩ (.sr b off len cap) (zI nl t)) :
  ∃c B,Cx.cX ⟨prog,dH.g,zl prog dH n,dH.uq⟩ 14 [.agg (aE e),.sr b off len cap] ⟨bs,[]⟩=some (.val (.bx [c,EX (e_ e t)]),⟨B,[]⟩)/\U4 e t ⟨bs,[]⟩ c B:=by
 obtain⟨r,h1,h2⟩:=x14 he hr ht hf;rw[zV] at h1;have hh:=λv H' h=>zhr (n:=n) (args:=[.agg (aE e),.sr b off len cap]) (H:=⟨bs,[]⟩) (v:=v) (H':=H') func14 rfl hn (Nu rfl _) h;unfold Rw at h2;have GY:U4 e t ⟨bs,[]⟩ .aU bs\/¬((if e_ e t then q7 e t else [])=[]):=by
  by_cases hg:(if e_ e t then q7 e t else [])=[]
  ·exact .inl ⟨rfl,λ_ _=>rfl,.inl rfl,λ_ _ _=>by rw[hg];exact .same rfl,bV _,λ_ _=>rfl⟩
  ·exact .inr hg
 cases hk:e_ e t with
 | false =>
  rw[hk] at h2;rw[hk] at GY;simp only[bH,aZ] at h2 GY;subst h2;exact⟨.aU,bs,hh _ _ h1,GY.resolve_right (by simp)⟩
 | true =>
  rw[hk] at h2 GY;simp only[aT] at h2 GY;rcases h2 with⟨h2,rfl⟩|⟨h2,bZ,rfl⟩
  ·exact⟨.aU,bs,hh _ _ h1,GY.resolve_right (by simp[h2])⟩
  ·have hb:nth (bs++[aN.ul bZ 1 (kD (q7 e t)) 3]) bs.length=some (.ul bZ 1 (kD (q7 e t)) 3):=by
    rw[zf,nN (bV _)];simp
   have hi:kD (q7 e t)=iL ((q7 e t).map Int.ofNat):=by simp only[kD,iL,List.map_map];rfl
   have hle:t.length<=65536:=by
    simp only[e_,bN,decide_eq_true_eq] at hk;exact hk.2
   have cU:=ziS e t;refine⟨_,bs++[.ul bZ 1 (kD (q7 e t)) 3],hh _ _ h1,rfl,λ_ _=>rfl,.inr ⟨bs.length,bZ,(q7 e t).map Int.ofNat,by simp,by rw[hb,hi],by simp;omega,bV _⟩,λB' es ZE=>?_,by simp,λi hi=>by rw[zf,zf,nH hi]⟩
   rw[hk,if_pos rfl];have:=mL.ul (H:=⟨B',es⟩) (len:=(q7 e t).length) (by rw[<- zf];exact ZE _ _ hb) (oE _)
   have hv:oV (q7 e t)=.sl 1 (kD (q7 e t)) .no:=by
    unfold oV Sx.lv;rw[if_neg];simp[kD,h2]
   rw[hv];exact this
def zsT(hn:1<=n){e:E}{nl:Bool}{t:aR}{H:Hp}{b off len cap:Nat}(he:oY e)(hr:Rg e)(ht:∀b∈t,b<256)(hf:mL H (.sr b off len cap) (zI nl t)) :
  Cx.cX ⟨prog,dH.g,zl prog dH n,dH.uq⟩ 16 [.agg (aE e),.sr b off len cap] H=some (.val (EA e t),H):=by
 rw[<- zV];exact zhr func16 rfl hn (Nu rfl _) (x16 he hr ht hf)
def zsU(hn:1<=n){c:V}{l:aR}{H:Hp}(hl:l.length<=maxLen)(hf:mL H c (oV l)):Cx.cX ⟨prog,dH.g,zl prog dH n,dH.uq⟩ 21 [c,oV l] H=some (.val (.bool true),H) :=
 zhr func21 rfl hn (Nu rfl _) (x21 hl hf)
def zpV(e:E)(t:aR):L5 e t=.bx [oV (if e_ e t then q7 e t else []),Ae (e_ e t)]:=by
 unfold L5 Ae;cases e_ e t<;>rfl
def zpW(e:E)(t:aR):L6 e t=.bx [bI (if e_ e t then vj e t else c_),Ae (e_ e t)]:=by
 unfold L6 Ae;cases e_ e t<;>rfl
def zpX(e:E)(t:aR):EA e t=.bx [bI (if e_ e t then vj e t else c_),EX (e_ e t)]:=by
 unfold EA EX;cases e_ e t<;>rfl
def zrw(b:Bool):aX (EX b)=EX b/\∀env t,jj env t (some (EX b))=some (EX b,env):=by cases b<;>exact⟨rfl,λ_ _=>rfl⟩
def zrx(b:Bool):aX (Ae b)=Ae b/\∀env t,jj env t (some (Ae b))=some (Ae b,env):=by cases b<;>exact⟨rfl,λ_ _=>rfl⟩
def zry(s:fS):aX (bI s)=bI s/\∀env t,jj env t (some (bI s))=some (bI s,env):=⟨rfl,λ_ _=>rfl⟩
def zrz(l:aR):aX (oV l)=oV l/\∀env t,jj env t (some (oV l))=some (oV l,env):=by
 refine⟨zpy l,λenv t=>?_⟩;unfold oV Sx.lv;split<;>rfl
def zrA(nl:Bool)(t:aR)(env:aj)(k:Nat):jj env k (some (zI nl t))=some (zI nl t,env):=by
 unfold zI Sx.lv;split<;>rfl
def U5{B R:List aN}{i:Nat}{x:aN}(h:nth B i=some x):nth (B++R) i=some x:=by
 rw[zf,nH (kQ (H:=⟨B,[]⟩) h),<- zf];exact h
def zrB{B:List aN}{x:aN}:nth (B++[x]) B.length=some x:=by
 rw[zf,nN (bV _),G4];rfl
def zsV{B:List aN}{x:aN}{s:fS}{env:aj}{lk:aC}{df:aV}:qV prog 24 ⟨B++[.cells (bI c_).cells 24,x],[]⟩ lk df (some (bI s,env)) (some (.ptr B.length 0))=some (.skip,⟨env,⟨B++[.cells (bI s).cells 24,x],[]⟩,lk,df⟩):=by
 have hg:Hp.get ⟨B++[.cells (bI c_).cells 24,x],[]⟩ B.length=some (.cells (bI c_).cells 24):=by simp[Hp.get,zf]
 rw[jn C6 hg rfl rfl (show 0+4<=4 by decide) rfl,qR rfl]
 simp only[Hp.set];rw[List.set_append_right _ _ (bV _),G4];rfl
def zsW{B:List aN}{x:aN}{c:Int}{env:aj}{lk:aC}{df:aV}:qV prog 69 ⟨B++[x,.cells (wd 0).cells 69],[]⟩ lk df (some (wd c,env)) (some (.ptr (B.length+1) 0))=some (.skip,⟨env,⟨B++[x,.cells (wd c).cells 69],[]⟩,lk,df⟩):=by
 have:=zsK (B:=B++[x]) (c:=c) (env:=env) (lk:=lk) (df:=df);simpa using this
end
def adq:qO prog 27=some (enc (.mk 0 0 0 0 0 0 [] 0 0 true [])):=by kernel_rfl
def ads:eF (enc (.mk 0 0 0 0 0 0 [] 0 0 true []))=true:=rfl
def ztT{n:Nat}{e:E}{nl:Bool}{l:List Tx}(he:oY e)(hr:Rg e)(RV:∀p∈l,Rp p)(hn:70010<=n)(hnt:∀p∈l,p.2.length+10<=n) :
  ∃H',zl prog dH (n+1) 8 [.agg (aE e++[xO nl l])] ⟨[],[]⟩=some (.ret (.bool true),H'):=by
 suffices eG:go ⟨prog,dH.g,zl prog dH n,dH.uq⟩ n (Fx prog f8.results.toList λu H1=>u=.bool true) [.c (f8.body.getD .skip)] .normal ⟨[.agg (aE e++[xO nl l])]++List.replicate 103 (.bx []),⟨[],[]⟩,[],[]⟩ by
  obtain⟨u,H1,h1,rfl⟩:=jm (gl:=dH) (f:=8) (bs:=[]) (es:=[]) (args:=[.agg (aE e++[xO nl l])]) (n:=n) (Nu rfl _) (λH=>rfl) func8 rfl eG;exact⟨_,h1⟩
 have adt:(aE e++[xO nl l]).map aX=aE e++[xO nl l]:=by simp[wx,UM]
 have h0:∀r g,zA prog ⟨.cells (aE e++[xO nl l]) 30::r,[]⟩ g 27 (.ptr 0 0)=some (.agg (aE e)):=λr g=>Ry rfl;have Xd:=λH=>zsL (n:=n) (by omega) he (H:=H)
 have TY:=λH=>zsM (n:=n) (by omega) (H:=H)
 simp only[f8,tS,zc];refine ze ?_;simp only[BA,qc,zb,cM,cN,qQ (show eF (.agg (aE e++[xO nl l]))=true from rfl),V.laid,adt,List.replicate];refine ze ?_;simp only[BA,zb,zg,cM,cN,sS,h0,Xd,Qw]
 by_cases fR:fQ e 0 > 1200
 ·refine .inl ⟨by simpa using fR,?_⟩
  refine y5 (tk:=[19]) (by kernel_rfl) ?_
  simp only[BA,zb,zg,cM,cN,TY];simp only[go_ret,zo,je,Fx]
  exact⟨trivial,[.bool true],rfl,rfl⟩
 refine .inr ⟨by simpa using fR,?_⟩
 have DU:nodes e<=65536:=by have:=zjM (e:=e) he.1 (by omega);omega
 have T2:=λH=>zsO (n:=n) (by omega) he DU (H:=H)
 have ZI:(enc (.mk 0 0 0 0 0 0 [] 0 0 true [])).cells.all (λc=>!(locked c))=true:=rfl;have b8:=λenv=>ztS (B:=[.cells (aE e++[xO nl l]) 30]) (e:=eL e) (z:=(enc (.mk 0 0 0 0 0 0 [] 0 0 true [])).cells) rfl ZI (env:=env) (lk:=[]) (df:=[]);simp only[fY,List.length_nil,eM,iQ,gF] at b8;refine ze ?_;simp only[BA,qc,zb,zg,cM,cN,sS,h0,T2,adq,wI ads,b8];refine ze ?_
 simp only[BA,cM,cN];refine km (λm s=>∃k env bs,m+k=12/\s=⟨env,⟨bs,[]⟩,[],[]⟩/\env.length=104/\nth env 1=some (.ptr 0 0)/\nth env 3=some (.ptr 1 0)/\nth env 4=some (.int .i64 (k:Nat))/\nth bs 0=some (.cells (aE e++[xO nl l]) 30)/\nth bs 1=some (.cells (aE (eL e)) 27)) 12 (by omega) ⟨0,_,_,rfl,rfl,rfl,rfl,rfl,rfl,rfl,rfl⟩ ?_
 clear h0 b8 Xd T2;rintro m s ⟨k,env,bs,Ck,rfl,aW,e1,e3,e4,b0,b1⟩;have h0:∀g,zA prog ⟨bs,[]⟩ g 27 (.ptr 0 0)=some (.agg (aE e)):=λg=>Ry b0;have h1:∀g,zA prog ⟨bs,[]⟩ g 28 (.ptr 0 10)=some (xO nl l):=λg=>ztQ b0;simp only[zc];refine ze ?_
 by_cases hk:k<l.length
 ·by_cases fB:k<12
  ·simp only[BA,Nat.reduceEqDiff,za,cI,Nat.reduceLT,aZ,zb,zg,jb,zF,qa,fq,kZ,e1,e4,aW,Cd,h1,UM,zox,jr,show decide ((k:Int)<(l.length:Int))=true from decide_eq_true (by omega),show decide ((k:Int)<12)=true from decide_eq_true (by omega)]
   refine .inl ?_
   try simp only[bC,zc,zU]
   obtain⟨p,hp⟩:∃p,l[k]?=some p:=⟨l[k],by simp[hk]⟩
   have hpm:=oH hp;have G_:=RV p hpm;have hpn:=hnt p hpm;obtain⟨t,ht⟩:∃t,t=LZ p.2:=⟨_,rfl⟩;obtain⟨nb,G9⟩:∃nb,nb=(p.1 && p.2.isEmpty):=⟨_,rfl⟩;have Qn:∀b∈t,b<256:=by rw[ht];exact zpO G_.2
   have nu:t.length<=p.2.length:=by
    rw[ht];unfold LZ;split<;>simp;omega
   have TZ:=λH=>zsN (n:=n) (by omega) p (H:=H)
   rw[show PL p=zI nb t by rw[ht,G9];rfl] at TZ
   refine ze ?_;simp only[BA,Nat.reduceEqDiff,za,cI,Nat.reduceLT,aZ,e1,e4,aW,Cd,h1,UM,gW,zsJ hp,zru,zrv,TZ,zrA];have Xe:Cx.cX ⟨prog,dH.g,zl prog dH n,dH.uq⟩ 28 [zI nb t] ⟨bs,[]⟩=some (.val (.sr bs.length 0 t.length (t.length+7)),⟨bs++[.cells (ig (t++List.replicate 7 165)) 5],[]⟩):=by
    obtain⟨n',rfl⟩:∃n',n=n'+1:=⟨n - 1,by omega⟩
    exact zR func28 rfl (zsD (by have:=G_.1;omega) (by omega))
   refine ze ?_;simp only[BA,Nat.reduceEqDiff,za,cI,Nat.reduceLT,aZ,aW,zS,Xe,yo];refine lP (λenv=>env.length=104/\nth env 1=some (.ptr 0 0)/\nth env 3=some (.ptr 1 0)/\nth env 4=some (.int .i64 (k:Nat))/\nth env 5=some (zI nb t)/\nth env 6=some (.sr bs.length 0 t.length (t.length+7))) ⟨by simp[aW],by simp[za,e1],by simp[za,e3],by simp[za,e4],by simp[za,aW],by simp[za,aW]⟩ ?_
   clear Xe TZ aW e1 e3 e4 env h0 h1;rintro env ⟨aW,e1,e3,e4,e5,e6⟩;have adu:0<bs.length:=kQ (H:=⟨bs,[]⟩) b0;have adv:1<bs.length:=kQ (H:=⟨bs,[]⟩) b1;have hL:=zrB (B:=bs) (x:=.cells (ig (t++List.replicate 7 165)) 5);have b0':=U5 (R:=[.cells (ig (t++List.replicate 7 165)) 5]) b0;have b1':=U5 (R:=[.cells (ig (t++List.replicate 7 165)) 5]) b1
   have hN:(bs++[aN.cells (ig (t++List.replicate 7 165)) 5]).length=bs.length+1:=by simp
   generalize bs++[aN.cells (ig (t++List.replicate 7 165)) 5]=B0 at *;obtain⟨cg1,cg2,cg3,cg4,_⟩:=Ab e;obtain⟨co1,co2,co3⟩:=zoq e t;have hgc:oY (eL e):=⟨cg1 he.1,cg2⟩;have ldc:∀B,nth B 1=some (.cells (aE (eL e)) 27)->∀g,zA prog ⟨B,[]⟩ g 27 (.ptr 1 0)=some (.agg (aE (eL e))):=λB hB g=>Ry (e:=eL e) (r:=[]) (by rw[uf];exact hB)
   have lde:∀B,nth B 0=some (.cells (aE e++[xO nl l]) 30)->∀g,zA prog ⟨B,[]⟩ g 27 (.ptr 0 0)=some (.agg (aE e)):=λB hB g=>Ry hB;obtain⟨c,B,T0,hQ⟩:=zsS (n:=n) (by omega) hgc (cg3 hr) Qn (zhq (H:=⟨B0,[]⟩) (cap:=t.length+7) (by rw[<- zf];exact hL))
   rw[co1] at T0;have l1:=ldc B0 b1';have Lt:=hQ.aX;have hq2:=hQ.take;have CE:=zrw (e_ e t);refine ze ?_;simp only[BA,Nat.reduceEqDiff,za,cI,Nat.reduceLT,aZ,aW,e3,e6,l1,jt,T0,Qx,yG,zb,zg,Lt,hq2,CE.1,CE.2]
   refine lP (λenv=>env.length=104/\nth env 1=some (.ptr 0 0)/\nth env 3=some (.ptr 1 0)/\nth env 4=some (.int .i64 (k:Nat))/\nth env 5=some (zI nb t)/\nth env 6=some (.sr bs.length 0 t.length (t.length+7))/\nth env 7=some c/\nth env 8=some (EX (e_ e t))) ⟨by simp[aW],by simp[za,e1],by simp[za,e3],by simp[za,e4],by simp[za,e5],by simp[za,e6],by simp[za,aW],by simp[za,aW]⟩ ?_
   clear T0 l1 aW e1 e3 e4 e5 e6 env;rintro env ⟨aW,e1,e3,e4,e5,e6,e7,e8⟩;have hfz:=hQ.frz;rw[co1,co2] at hfz;have bX:=hQ.top;have tH:bs.length+1<=B.length:=by have:=hQ.len;simp only at this;omega
   have b0B:nth B 0=some (.cells (aE e++[xO nl l]) 30):=(hQ.get 0 (by simp only;omega)).trans b0'
   have b1B:nth B 1=some (.cells (aE (eL e)) 27):=(hQ.get 1 (by simp only;omega)).trans b1'
   have hLB:nth B bs.length=some (.cells (ig (t++List.replicate 7 165)) 5):=(hQ.get bs.length (by simp only;omega)).trans hL
   simp only[hN] at bX;clear hQ b0' b1' hL;have T3:=λH=>zsP (n:=n) (by omega) he hr Qn DU (nl:=nb) (H:=H)
   rw[zpV] at T3;have Ci:=zrx (e_ e t);have hv3:=zrz (if e_ e t=true then q7 e t else [])
   have l0:=lde B b0B;have EY:=λenv=>zsK (B:=B) (c:=if e_ e t then 0 else 15) (env:=env) (lk:=[]) (df:=[])
   rw[show wd (if e_ e t=true then 0 else 15)=Ae (e_ e t) from rfl] at EY
   have Nw:eF (wd 0)=true:=rfl;refine ze ?_;simp only[BA,qc,Nat.reduceEqDiff,za,cI,Nat.reduceLT,aZ,aW,e1,e5,sS,l0,zS,T3,Qx,yG,zb,zg,z69,wI Nw,Ci.1,Ci.2,hv3.1,hv3.2,EY]
   refine lP (λenv=>env.length=104/\nth env 1=some (.ptr 0 0)/\nth env 3=some (.ptr 1 0)/\nth env 4=some (.int .i64 (k:Nat))/\nth env 5=some (zI nb t)/\nth env 6=some (.sr bs.length 0 t.length (t.length+7))/\nth env 7=some c/\nth env 8=some (EX (e_ e t))/\nth env 9=some (oV (if e_ e t then q7 e t else []))/\nth env 10=some (.ptr B.length 0)) ⟨by simp[aW],by simp[za,e1],by simp[za,e3],by simp[za,e4],by simp[za,e5],by simp[za,e6],by simp[za,e7],by simp[za,e8],by simp[za,aW],by simp[za,aW]⟩ ?_
   clear T3 l0 EY aW e1 e3 e4 e5 e6 e7 e8 env;rintro env ⟨aW,e1,e3,e4,e5,e6,e7,e8,e9,Gz⟩;have m1:=zrB (B:=B) (x:=.cells (Ae (e_ e t)).cells 69);have Dj:∀i x,nth B i=some x->nth (B++[.cells (Ae (e_ e t)).cells 69]) i=some x:=λi x h=>U5 h;have DQ:(B++[aN.cells (Ae (e_ e t)).cells 69]).length=B.length+1:=by simp
   generalize B++[aN.cells (Ae (e_ e t)).cells 69]=B1 at *;have T1:=zsT (n:=n) (H:=⟨B1,[]⟩) (by omega) hgc (cg3 hr) Qn (zhq (H:=⟨B1,[]⟩) (cap:=t.length+7) (by rw[<- zf];exact Dj _ _ hLB))
   rw[zpX,co1,co3] at T1;have l1:=ldc B1 (Dj _ _ b1B);have J5:=λenv=>ztR (B:=B1) (s:=if e_ e t then vj e t else c_) (env:=env) (lk:=[]) (df:=[])
   have U6:=zry (if e_ e t=true then vj e t else c_)
   refine ze ?_;simp only[BA,qc,Nat.reduceEqDiff,za,cI,Nat.reduceLT,aZ,aW,e3,e6,l1,jt,T1,Qx,yG,zb,zg,z24,wI (zqc c_),CE.1,CE.2,U6.1,U6.2,J5]
   refine lP (λenv=>env.length=104/\nth env 1=some (.ptr 0 0)/\nth env 3=some (.ptr 1 0)/\nth env 4=some (.int .i64 (k:Nat))/\nth env 5=some (zI nb t)/\nth env 6=some (.sr bs.length 0 t.length (t.length+7))/\nth env 7=some c/\nth env 8=some (EX (e_ e t))/\nth env 9=some (oV (if e_ e t then q7 e t else []))/\nth env 10=some (.ptr B.length 0)/\nth env 11=some (.ptr B1.length 0)/\nth env 12=some (EX (e_ e t))) ⟨by simp[aW],by simp[za,e1],by simp[za,e3],by simp[za,e4],by simp[za,e5],by simp[za,e6],by simp[za,e7],by simp[za,e8],by simp[za,e9],by simp[za,Gz],by simp[za,aW],by simp[za,aW]⟩ ?_
   clear T1 l1 J5 aW e1 e3 e4 e5 e6 e7 e8 e9 Gz env;rintro env ⟨aW,e1,e3,e4,e5,e6,e7,e8,e9,Gz,Rl,Yb⟩;have m2:=zrB (B:=B1) (x:=.cells (bI (if e_ e t=true then vj e t else c_)).cells 24)
   have ER:∀i x,nth B1 i=some x->nth (B1++[.cells (bI (if e_ e t=true then vj e t else c_)).cells 24]) i=some x:=λi x h=>U5 h
   have RG:(B1++[aN.cells (bI (if e_ e t=true then vj e t else c_)).cells 24]).length=B1.length+1:=by simp
   generalize B1++[aN.cells (bI (if e_ e t=true then vj e t else c_)).cells 24]=B2 at *
   have T4:=λH=>zsQ (n:=n) (by omega) he hr Qn DU (nl:=nb) (H:=H)
   rw[zpW] at T4;have l0:=lde B2 (ER _ _ (Dj _ _ b0B));have J5:=λenv x=>zsV (B:=B2) (x:=x) (s:=if e_ e t then vj e t else c_) (env:=env) (lk:=[]) (df:=[])
   have EY:=λenv x=>zsW (B:=B2) (x:=x) (c:=if e_ e t then 0 else 15) (env:=env) (lk:=[]) (df:=[])
   rw[show wd (if e_ e t=true then 0 else 15)=Ae (e_ e t) from rfl] at EY
   refine ze ?_;simp only[BA,qc,Nat.reduceEqDiff,za,cI,Nat.reduceLT,aZ,aW,e1,e5,sS,l0,zS,T4,Qx,yG,zb,zg,z24,z69,wI (zqc c_),wI Nw,Ci.1,Ci.2,U6.1,U6.2,J5,EY]
   refine lP (λenv=>env.length=104/\nth env 1=some (.ptr 0 0)/\nth env 3=some (.ptr 1 0)/\nth env 4=some (.int .i64 (k:Nat))/\nth env 5=some (zI nb t)/\nth env 6=some (.sr bs.length 0 t.length (t.length+7))/\nth env 7=some c/\nth env 8=some (EX (e_ e t))/\nth env 9=some (oV (if e_ e t then q7 e t else []))/\nth env 10=some (.ptr B.length 0)/\nth env 11=some (.ptr B1.length 0)/\nth env 12=some (EX (e_ e t))/\nth env 13=some (.ptr B2.length 0)/\nth env 14=some (.ptr (B2.length+1) 0)) ⟨by simp[aW],by simp[za,e1],by simp[za,e3],by simp[za,e4],by simp[za,e5],by simp[za,e6],by simp[za,e7],by simp[za,e8],by simp[za,e9],by simp[za,Gz],by simp[za,Rl],by simp[za,Yb],by simp[za,aW],by simp[za,aW]⟩ ?_
   clear T4 l0 J5 EY aW e1 e3 e4 e5 e6 e7 e8 e9 Gz Rl Yb env;rintro env ⟨aW,e1,e3,e4,e5,e6,e7,e8,e9,Gz,Rl,Yb,Aq,e14⟩;have m3:nth (B2++[aN.cells (bI (if e_ e t=true then vj e t else c_)).cells 24,aN.cells (Ae (e_ e t)).cells 69]) B2.length=some (aN.cells (bI (if e_ e t=true then vj e t else c_)).cells 24):=by
    rw[zf,nN (bV _),G4];rfl
   have m4:nth (B2++[aN.cells (bI (if e_ e t=true then vj e t else c_)).cells 24,aN.cells (Ae (e_ e t)).cells 69]) (B2.length+1)=some (aN.cells (Ae (e_ e t)).cells 69):=by
    rw[zf,nN (by omega),Nat.add_sub_cancel_left];rfl
   have PT:∀i x,nth B2 i=some x->nth (B2++[aN.cells (bI (if e_ e t=true then vj e t else c_)).cells 24,aN.cells (Ae (e_ e t)).cells 69]) i=some x:=λi x h=>U5 h
   have atC:(B2++[aN.cells (bI (if e_ e t=true then vj e t else c_)).cells 24,aN.cells (Ae (e_ e t)).cells 69]).length=B2.length+2:=by simp
   generalize B2++[aN.cells (bI (if e_ e t=true then vj e t else c_)).cells 24,aN.cells (Ae (e_ e t)).cells 69]=B3 at *
   have uu:∀i x,nth B i=some x->nth B3 i=some x:=λi x h=>PT _ _ (ER _ _ (Dj _ _ h));have hGl:(if e_ e t=true then q7 e t else []).length<=maxLen:=by
    split
    ·rename_i hk;have:=ziS e t;simp only[e_,bN,decide_eq_true_eq] at hk;have:(65537:Nat)<=maxLen:=by decide
     omega
    ·exact dJ _
   have k21:=zsU (n:=n) (by omega) hGl (hfz B3 [] uu)
   have k31:=λH=>zsR (n:=n) (b:=e_ e t) (by omega) (H:=H)
   have q1:=λg=>zsI (H:=⟨B3,[]⟩) (g:=g) (c:=if e_ e t then 0 else 15) (PT _ _ (ER _ _ m1))
   have q2:=λg=>LL (H:=⟨B3,[]⟩) (g:=g) (PT _ _ m2);have q3:=λg=>LL (H:=⟨B3,[]⟩) (g:=g) m3;have q4:=λg=>zsI (H:=⟨B3,[]⟩) (g:=g) (c:=if e_ e t then 0 else 15) m4
   rw[show wd (if e_ e t=true then 0 else 15)=Ae (e_ e t) from rfl] at q1 q4
   obtain⟨n',rfl⟩:∃n',n=n'+1:=⟨n - 1,by omega⟩
   obtain⟨B4,r32,Mv,hf4⟩:=zsF (n:=n') (bs:=B3) (es:=[]) (nl:=nb) (uu _ _ hLB) (by have:=G_.1;omega) (by omega)
   have k32:Cx.cX ⟨prog,dH.g,zl prog dH (n'+1),dH.uq⟩ 32 [.sr bs.length 0 t.length (t.length+7),zI nb t] ⟨B3,[]⟩=some (.val (.bool true),⟨B4,[]⟩):=zR func32 rfl r32;refine ze ?_;simp only[BA,Nat.reduceEqDiff,za,cI,Nat.reduceLT,aZ,zb,zg,jb,zF,qa,eX,kZ,pI,e5,e6,e7,e8,e9,Gz,Rl,Yb,Aq,e14,aW,Lt,hv3.1,k21,NG,pI,CE.1,Ci.1,q1,k31,q2,q3,U6.1,zsH,q4,jt,zS,k32]
   refine .inr ?_;have U7:c=.aU\/∃b bZ l,c=.fA b bZ l.length/\nth B4 b=some (.ul bZ 1 (iL l) 3)/\l.length<=70000:=by
    rcases bX with h|⟨b,bZ,q,h1,h2,h3,h4⟩
    ·exact .inl h
    ·exact .inr ⟨b,bZ,q,h1,(hf4 b (by omega)).trans (uu _ _ h2),h3⟩
   obtain⟨B5,r33,hl5,hf5⟩:=zsG (n:=n') (bs:=B4) (es:=[]) U7 (by omega)
   have k33:Cx.cX ⟨prog,dH.g,zl prog dH (n'+1),dH.uq⟩ 33 [c] ⟨B4,[]⟩=some (.val (.bx []),⟨B5,[]⟩):=zR func33 rfl r33;have U8:∀i,i<bs.length->∀x,nth B i=some x->nth B5 i=some x:=λi hi x hx=>by
    rw[hf5 i ?_,hf4 i (by omega)]
    ·exact uu _ _ hx
    ·intro bZ len hc;rcases bX with h|⟨b,atJ,q,h1,h2,h3,h4⟩
     ·rw[h] at hc;cases hc
     ·rw[h1] at hc;cases hc;omega
   try simp only[bC,zc,zU,wh]
   refine ze ?_;simp only[BA,Nat.reduceEqDiff,za,cI,Nat.reduceLT,aZ,e7,aW,Lt,k33];refine ze ?_;simp only[BA,Nat.reduceEqDiff,za,cI,Nat.reduceLT,aZ,e4,aW,qf (show k<2 ^ 60 by omega),zo,bL]
   refine⟨m - 1,by omega,k+1,_,B5,by omega,rfl,?_,?_,?_,?_,U8 0 adu _ b0B,U8 1 adv _ b1B⟩
   ·simp[aW]
   ·simp[za,e1]
   ·simp[za,e3]
   ·simp[za,aW]
  ·simp only[BA,Nat.reduceEqDiff,za,cI,Nat.reduceLT,aZ,zb,zg,jb,zF,qa,fq,kZ,e1,e4,aW,Cd,h1,UM,zox,jr,show decide ((k:Int)<(l.length:Int))=true from decide_eq_true (by omega),show decide ((k:Int)<12)=false from decide_eq_false (by omega)]
   refine .inr ?_;simp only[jY,q8,qB,zo,dV,zc,pP,aT,zo];have l0:=h0;have lc:∀g,zA prog ⟨bs,[]⟩ g 27 (.ptr 1 0)=some (.agg (aE (eL e))):=λg=>Ry (e:=eL e) (r:=[]) (by rw[uf];exact b1)
   have k34:=λH=>zqx (n:=n) (by omega) he (H:=H)
   refine ze ?_;simp only[BA,Nat.reduceEqDiff,za,cI,Nat.reduceLT,aZ,zb,zg,jb,zF,qa,fq,kZ,e1,e3,aW,sS,l0,lc,k34,TY];simp only[go_ret,zo,Fx]
   refine⟨trivial,[.bool true],?_,rfl⟩;simp[zG,za,aW]
 ·simp only[BA,Nat.reduceEqDiff,za,cI,Nat.reduceLT,aZ,zb,zg,jb,zF,qa,lQ,yh,e1,e4,aW,Cd,h1,UM,zox,jr,show decide ((k:Int)<(l.length:Int))=false from decide_eq_false (by omega)]
  refine .inr ?_;simp only[jY,q8,qB,zo,dV,zc,pP,aT,zo];have l0:=h0;have lc:∀g,zA prog ⟨bs,[]⟩ g 27 (.ptr 1 0)=some (.agg (aE (eL e))):=λg=>Ry (e:=eL e) (r:=[]) (by rw[uf];exact b1)
  have k34:=λH=>zqx (n:=n) (by omega) he (H:=H)
  refine ze ?_;simp only[BA,Nat.reduceEqDiff,za,cI,Nat.reduceLT,aZ,zb,zg,jb,zF,qa,fq,kZ,e1,e3,aW,sS,l0,lc,k34,TY];simp only[go_ret,zo,Fx]
  refine⟨trivial,[.bool true],?_,rfl⟩;simp[zG,za,aW]
def S0:List ai:=[3,5,9,22,24,25,27,28,34,30]
def Ma:S0.all (VW prog S0)=true:=by kernel_rfl
def zrC{g:Gh}{xs:aj}{cs:cO}(h:RC g xs cs.toList):aL g (.agg xs) (.agg cs):=by
 refine .agg (by rw[RC.length h,DJ]) (λj x hx=>?_) λj x v hx hv=>?_
 ·obtain⟨v,_,hg⟩:=h.get j x hx;exact hg.1
 ·obtain⟨v',cP,hg⟩:=h.get j x hx;rw[Me,hv] at cP;cases cP;exact hg.2.1
def zlc{g:Gh}:∀{xs:aj}{cs:dy},RC g xs cs->aA xs=0
 | [],[],_=>rfl
 | x::xs,v::cs,h=>by simp[aA,h.1.2.2.1,zlc h.2]
 | [],_::_,h=>h.elim
 | _::_,[],h=>h.elim
def FP:∀(l:List Tx),∃k,∀p∈l,p.2.length+10<=k
 | []=>⟨0,λ_ h=>(by cases h)⟩
 | p::l=>by
  obtain⟨k,hk⟩:=FP l;exact⟨k+(p.2.length+10),FT.2 ⟨by omega,λq hq=>by have:=hk q hq;omega⟩⟩
def zsX(n:Nat)(xs:aj)(h:jx prog n 30 xs):∃k H',zl prog dH k 8 [.agg xs] ⟨[],[]⟩=some (.ret (.bool true),H'):=by
 obtain⟨e,nl,l,rfl,⟨hg,hr⟩,hl,RV⟩:=zpL h;obtain⟨k,hk⟩:=FP l;obtain⟨H',h'⟩:=ztT (n:=k+70010) (nl:=nl) hg hr RV (by omega) (λp hp=>by have:=hk p hp;omega)
 exact⟨_,H',h'⟩
end Go.Proofs.YtlnijcffanjieaaGreatDoor
