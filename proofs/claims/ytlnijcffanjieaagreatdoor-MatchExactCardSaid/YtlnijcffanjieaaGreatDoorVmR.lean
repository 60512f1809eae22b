/- Seat 7: Ends and Next, known. Conditions: none but those named. -/
import Derived.Test.YtlnijcffanjieaaGreatDoorProg
import Derived.KernelRfl
import Derived.Maps.AppendAt
import Derived.RangeFuncGives
import Derived.Sort.OwnSortedInts
import Derived.Shelf.Sort.Plain
import Derived.Test.YtlnijcffanjieaaGreatDoorVmM
import Derived.Test.YtlnijcffanjieaaGreatDoorVmN
import Derived.Test.YtlnijcffanjieaaGreatDoorVmQ
set_option linter.defProp false
namespace Go.Proofs.YtlnijcffanjieaaGreatDoor
open Go.Proofs.Tryz
set_option maxRecDepth 100000
section
open Go Go.Vm Go.Vm.Sx
open Classical in
noncomputable def rW{α:Type}(en:α->aj)(Q:α->Prop)(F:α->V)(args:aj):bS :=
 if h:∃a,Q a/\args=en a then some (F (Classical.choose h)) else none
def j9{α:Type}{en:α->aj}{Q:α->Prop}{F:α->V}(hi:∀a b,Q a->Q b->en a=en b->F a=F b){a:α}(h:Q a):rW en Q F (en a)=some (F a):=by
 unfold rW;have hex:∃b,Q b/\en a=en b:=⟨a,h,rfl⟩;rw[dif_pos hex];have hs:=KC hex;rw[hi _ _ hs.1 h hs.2.symm]
def vg{α:Type}{en:α->aj}{Q:α->Prop}{F:α->V}{args:aj}{v:V}(h:rW en Q F args=some v):∃a,Q a/\args=en a/\v=F a:=by
 unfold rW at h;split at h
 next hex=>have hs:=KC hex;exact⟨_,hs.1,hs.2,(tU h).symm⟩
 ·cases h
def oY(e:E):Prop:=Wf e/\Can e
def UH(e:E):aj:=[enc e]
def XO(p:fS×Nat):aj:=[bI p.1,.int .u8 (p.2:Nat)]
def XP(p:fS×fS):aj:=[bI p.1,bI p.2]
def PA(p:fS×Nat):Prop:=lS p.1/\p.2<256
def zrm(p:fS×fS):Prop:=lS p.1/\lS p.2
def XQ{s t:fS}(h:bI s=bI t):s=t:=by
 obtain⟨a,b,c,d⟩:=s;obtain⟨a',b',c',d'⟩:=t;simp only[bI,V.agg.injEq,rZ,V.int.injEq,fK,r8] at h;obtain⟨rfl,rfl,rfl,rfl⟩:=h;rfl
def i11:∀a b,oY a->oY b->UH a=UH b->V.bool (v4 a)=V.bool (v4 b):=λa b ha hb h=>by
 rw[l_ a b ha.2 hb.2 (List.cons.inj h).1]
def i17:∀a b,PA a->PA b->XO a=XO b->V.bool (qN a.1 a.2)=V.bool (qN b.1 b.2):=λa b _ _ h=>by
 simp only[XO,rZ,V.int.injEq,fK,r8] at h;have h1:=XQ h.1;have h2:a.2=b.2:=by omega
 rw[h1,h2]
def i226:∀a b,zrm a->zrm b->XP a=XP b->bI (wL a.1 a.2)=bI (wL b.1 b.2):=λa b _ _ h=>by
 simp only[XP,rZ,r8] at h;rw[XQ h.1,XQ h.2]
noncomputable def HB:Gl:={ g:=AD,uq:=uR,hk:=λf args=>if Nat.beq f 11 then rW UH oY (λe=>.bool (v4 e)) args else if Nat.beq f 17 then rW XO PA (λp=>.bool (qN p.1 p.2)) args else if Nat.beq f 226 then rW XP zrm (λp=>bI (wL p.1 p.2)) args else none }
def UI:Gl:={ g:=AD,hk:=λ_ _=>none }
instance : ir UI:=⟨λ_=>rfl,λ_ _ _ _=>rfl⟩
def B9:∀g off v,AD g off=some v->v.top=0:=by
 intro g off v h';unfold AD Lb at h';split at h'<;>simp only[aO,reduceCtorEq] at h';subst h';rfl
def Kx:GL UI:=⟨B9,λ_ _ _=>rfl⟩
def EP:nW prog UI:=⟨λf args v h=>(by cases h),λn f args H out H' h=>(by cases h),λ_ _ _ _ h=>(by cases h)⟩
def zhh(s:fS):(bI s).top=0:=rfl
def hkb:nW prog HB:=by
 refine⟨λf args v h d H g w aM lc h1 h2 h3=>?_,λn f args H out H' h=>(by cases h),LG⟩
 simp only[HB] at h;split at h
 next hf=>obtain rfl:f=11:=eT hf;obtain⟨e,hg,rfl,rfl⟩:=vg h;obtain⟨k,hk⟩:=Sx.Ev.run (xs:=[enc e]) (ztu Kx e hg.1) ⟨[],[]⟩;exact vD mixed gT ff EP (hk k (bV _)) (by simp[aA,cL]) rfl h1 h2 h3
 ·split at h
  next hf=>obtain rfl:f=17:=eT hf;obtain⟨⟨s,b⟩,hg,rfl,rfl⟩:=vg h;obtain⟨k,hk⟩:=Sx.Ev.run (xs:=[bI s,.int .u8 (b:Nat)]) (zs8 Kx s hg.1 b hg.2) ⟨[],[]⟩;exact vD mixed gT ff EP (hk k (bV _)) (by simp[aA,zhh,V.top]) rfl h1 h2 h3
  ·split at h
   next hf=>obtain rfl:f=226:=eT hf;obtain⟨⟨s,t⟩,hg,rfl,rfl⟩:=vg h;obtain⟨k,hk⟩:=Sx.Ev.run (xs:=[bI s,bI t]) (zrZ Kx s t hg.1 hg.2) ⟨[],[]⟩;exact vD mixed gT ff EP (hk k (bV _)) (by simp[aA,zhh]) rfl h1 h2 h3
   ·cases h
def Ro:GWC HB where
 uq:=rfl
 fB:=λ_ _ _ _=>rfl
 has:=λs b hs hb=>j9 (a:=(s,b)) i17 ⟨hs,hb⟩
 uni:=λs t hs ht=>j9 (a:=(s,t)) i226 ⟨hs,ht⟩
 chk:=λe hw hc=>j9 (a:=e) i11 ⟨hw,hc⟩
 g0:=by rfl
 hk:=λf args h=>by
  have:∀k,k=11\/k=17\/k=226->Nat.beq f k=false:=λk hk=>by
   cases hb:Nat.beq f k with
   | false=>rfl
   | true =>
    have:=eT hb;subst this;rcases hk with rfl|rfl|rfl<;>revert h<;>decide
  simp only[HB,this 11 (.inl rfl),this 17 (.inr (.inl rfl)),this 226 (.inr (.inr rfl)),bH,aZ]
 hkN:=λf args h=>by
  have:∀k,k=11\/k=17\/k=226->Nat.beq f k=false:=λk hk=>by
   cases hb:Nat.beq f k with
   | false=>rfl
   | true =>
    have:=eT hb;subst this;rcases hk with rfl|rfl|rfl<;>revert h<;>decide
  simp only[HB,this 11 (.inl rfl),this 17 (.inr (.inl rfl)),this 226 (.inr (.inr rfl)),bH,aZ]
def Q14(p:E×Bool×aR):Prop:=oY p.1/\Rg p.1/\∀b∈p.2.2,b<256
def PB(p:E×Bool×aR):aj:=[enc p.1,zI p.2.1 p.2.2]
def UJ{nl nl':Bool}{t t':aR}(h:zI nl t=zI nl' t'):t=t':=by
 have:=congrArg vL h;rw[kT,kT] at this;clear h
 induction t generalizing t' with
 | nil=>cases t' with
  | nil=>rfl
  | cons a t'=>simp at this
 | cons a t ih=>cases t' with
  | nil=>simp at this
  | cons b t' =>
   simp only[iC,rZ,V.int.injEq,fK] at this;rw[ih this.2,show a=b by omega]
def i14{F:E->aR->V}:∀a b,Q14 a->Q14 b->PB a=PB b->F a.1 a.2.2=F b.1 b.2.2:=λa b ha hb h=>by
 simp only[PB,rZ,r8] at h;rw[l_ _ _ ha.1.2 hb.1.2 h.1,UJ h.2]
def ok1:Qr prog AD x_:=ZL mixed gT ff zlv (zmb 0) rfl rfl LG
def ok2:Qr prog AD (EO++x_):=ZL mixed gT ff ok1 (zoc 0) rfl rfl LG
def ok3:Qr prog AD ((12,[],.bool true)::(EO++x_)):=ZL mixed gT ff ok2 (zmc 0) rfl rfl LG
end
section
open Go Go.Vm
def c27:prog.cellsOf 27=10:=by kernel_rfl
def c24:prog.cellsOf 24=4:=by kernel_rfl
def c22:prog.cellsOf 22=1:=by kernel_rfl
def c25:prog.cellsOf 25=1:=by kernel_rfl
def c28:prog.cellsOf 28=1:=by kernel_rfl
def c34:prog.cellsOf 34=1:=by kernel_rfl
def c30:prog.cellsOf 30=11:=by kernel_rfl
def c9:prog.cellsOf 9=1:=by kernel_rfl
def NN:prog.cellsOf 3=1:=by kernel_rfl
def c5':prog.cellsOf 5=1:=by kernel_rfl
def zty(cs:aj):xS prog 27 cs=.agg cs:=by
 have:Oi prog 27=true:=by kernel_rfl
 simp only[xS,this,aT]
def ztz(x:V):xS prog 34 [x]=x:=by
 have:Oi prog 34=false:=by kernel_rfl
 simp only[xS,this,bH,aZ];rfl
def mk5(x:V):xS prog 5 [x]=x:=by
 have:Oi prog 5=false:=by kernel_rfl
 simp only[xS,this,bH,aZ];rfl
def XR{n:Nat}{xs:aj}(h:jx prog n 3 xs):∃z,xs=[.int .i64 z]:=by
 cases n with
 | zero=>exact h.elim
 | succ n =>
  simp only[jx,underlying3] at h;obtain⟨z,h,_⟩:=h;exact⟨z,h⟩
def zrn{n:Nat}{xs:aj}(h:jx prog n 5 xs):∃z:Nat,xs=[.int .u8 z]/\z<256:=by
 cases n with
 | zero=>exact h.elim
 | succ n =>
  simp only[jx,underlying5] at h;obtain⟨z,h,hw⟩:=h;have h1:0<=z/\z<256:=by
   simp[Lit.wf,IntKind.min,IntKind.max,IntKind.signed,IntKind.bits] at hw;omega
  exact⟨z.toNat,by rw[h,Int.toNat_of_nonneg h1.1],by omega⟩
def XS{n:Nat}{xs:aj}(h:jx prog n 22 xs):∃z,xs=[.int .u64 z]/\AE z:=by
 cases n with
 | zero=>exact h.elim
 | succ n =>
  simp only[jx,underlying22] at h;obtain⟨z,h,hw⟩:=h;refine⟨z,h,?_⟩;simp[Lit.wf,IntKind.min,IntKind.max,IntKind.signed,IntKind.bits] at hw;unfold AE;omega
def zro{n:Nat}{xs:aj}(h:jx prog n 9 xs):∃s,xs=[.str s]/\(∀b∈s,b<256)/\s.length<=maxLen:=by
 cases n with
 | zero=>exact h.elim
 | succ n =>
  simp only[jx,underlying9] at h;exact h
def zpI{n:Nat}{xs:aj}(h:jx prog n 24 xs):∃a b c d,xs=[.int .u64 a,.int .u64 b,.int .u64 c,.int .u64 d]/\lS (a,b,c,d):=by
 cases n with
 | zero=>exact h.elim
 | succ n =>
  simp only[jx,underlying24,c24,c22] at h;obtain⟨hl,h⟩:=h
  match xs,hl with
  | [x,y,z,w],_ =>
   obtain⟨a,ha,ra⟩:=XS (h 0 (by omega))
   obtain⟨b,hb,rb⟩:=XS (h 1 (by omega))
   obtain⟨c,hc,rc⟩:=XS (h 2 (by omega))
   obtain⟨d,hd,rd⟩:=XS (h 3 (by omega))
   simp at ha hb hc hd;exact⟨a,b,c,d,by rw[ha,hb,hc,hd],ra,rb,rc,rd⟩
def FL:∀(ys:aj),(∀y∈ys,∃e,enc e=y/\oY e/\Rg e)->∃l,bl l=ys/\Jh l/\sN l/\AJ l
 | [],_=>⟨[],rfl,trivial,trivial,trivial⟩
 | y::ys,h=>by
  obtain⟨e,h1,h2,h5⟩:=h y ew;obtain⟨l,h3,h4,h6,h7⟩:=FL ys λz hz=>h z (cZ _ hz);exact⟨e::l,by simp[bl,h1,h3],⟨h2.1,h4⟩,⟨h2.2,h6⟩,h5,h7⟩
def zhj{α:Type}{h:α->V}{Q:α->Prop}:∀(ys:aj),(∀y∈ys,∃a,h a=y/\Q a)->∃l:List α,l.map h=ys/\∀a∈l,Q a
 | [],_=>⟨[],rfl,λ_ h=>by simp at h⟩
 | y::ys,hy=>by
  obtain⟨a,h1,h2⟩:=hy y (ew ..);obtain⟨l,h3,h4⟩:=zhj ys λz hz=>hy z (cZ _ hz);refine⟨a::l,by simp[h1,h3],λb hb=>?_⟩
  rcases cS.1 hb with rfl|hb
  ·exact h2
  ·exact h4 b hb
mutual
def JR:∀(n:Nat)(xs:aj),jx prog n 27 xs->∃e,enc e=.agg xs/\oY e/\Rg e
 | 0,_,h=>h.elim
 | n+1,xs,h=>by
  simp only[jx,underlying27,c27] at h;obtain⟨hl,h⟩:=h;have f0:=h ⟨ "Op",3,0,false,"","",0⟩ (by simp)
  have f1:=h ⟨ "At",3,1,false,"","",8⟩ (by simp)
  have f2:=h ⟨ "Set",24,2,false,"","",16⟩ (by simp)
  have f3:=h ⟨ "Text",9,6,false,"","",48⟩ (by simp)
  have f4:=h ⟨ "Min",3,7,false,"","",64⟩ (by simp)
  have f5:=h ⟨ "Max",3,8,false,"","",72⟩ (by simp)
  have f6:=h ⟨ "Args",25,9,false,"","",80⟩ (by simp)
  clear h;simp only[NN,c24,c9,c25] at f0 f1 f2 f3 f4 f5 f6
  match xs,hl with
  | [x0,x1,x2,x3,x4,x5,x6,x7,x8,x9],_ =>
   simp only[List.drop_succ_cons,E0,List.take_succ_cons,List.take_zero] at f0 f1 f2 f3 f4 f5 f6;obtain⟨op,h0⟩:=XR f0;obtain⟨pl,h1⟩:=XR f1;obtain⟨a,b,c,d,h2,hr⟩:=zpI f2;obtain⟨s,h3,_,hs⟩:=zro f3;obtain⟨mn,h4⟩:=XR f4;obtain⟨mx,h5⟩:=XR f5;obtain⟨nl,l,h6,h7,h8,h9,h10,M6⟩:=PC n x9 f6;simp only[rZ,r8] at h0 h1 h2 h3 h4 h5;obtain⟨rfl,rfl,rfl,rfl⟩:=h2;subst h0 h1 h3 h4 h5 h6
   exact⟨.mk op pl a b c d s mn mx nl l,rfl,⟨⟨hs,h7,h8⟩,M6,h9⟩,hr,h10⟩
def PC:∀(n:Nat)(v:V),jx prog n 25 [v]->∃nl l,v=qS nl (bl l)/\l.length<=maxLen/\Jh l/\sN l/\AJ l/\(nl=true->l=[])
 | 0,_,h=>h.elim
 | n+1,v,h=>by
  simp only[jx,underlying25,c27] at h;rcases h with h|⟨ys,h,⟨hl,_⟩,hy⟩
  ·simp only[rZ,r8] at h;exact⟨true,[],by rw[h];rfl,by simp,trivial,trivial,trivial,λ_=>rfl⟩
  ·simp only[rZ,r8] at h;obtain⟨l,h1,h2,h3,h4⟩:=FL ys λy UK=>by
    obtain⟨cs,g1,g2⟩:=hy y UK;rw[zty] at g2;rw[g2];exact JR n cs g1
   subst h1;rw[aK] at hl;exact⟨false,l,by rw[h];rfl,hl,h2,h3,h4,λh=>by cases h⟩
end
abbrev Tx:=Bool×aR
def AK(p:Tx):V:=zI p.1 p.2
def xO(nl:Bool)(l:List Tx):V:=Sx.lv 1 nl (l.map AK)
def Rp(p:Tx):Prop:=p.2.length<=140737488351232/\∀b∈p.2,b<256
def by5:prog.bytesOf 5=1:=by kernel_rfl
def zpJ{n:Nat}{xs:aj}(h:jx prog n 34 xs):∃p:Tx,xs=[AK p]/\Rp p:=by
 cases n with
 | zero=>exact h.elim
 | succ n =>
  simp only[jx,underlying34,c5'] at h;rcases h with h|⟨ys,h,⟨_,hl⟩,hy⟩
  ·exact⟨(true,[]),h,by simp[Rp]⟩
  ·obtain⟨l,h1,h2⟩:=zhj (h:=λb:Nat=>V.int .u8 (b:Nat)) (Q:=λb=>b<256) ys λy UK=>by
    obtain⟨ds,g1,g2⟩:=hy y UK;obtain⟨z,g3,g4⟩:=zrn g1;rw[g3,mk5] at g2;exact⟨z,g2.symm,g4⟩
   subst h1;rw[oO,by5,ND] at hl;exact⟨(false,l),h,hl,h2⟩
def zpK{n:Nat}{v:V}(h:jx prog n 28 [v]):∃nl l,v=xO nl l/\l.length<=maxLen/\∀p∈l,Rp p:=by
 cases n with
 | zero=>exact h.elim
 | succ n =>
  simp only[jx,underlying28,c34] at h;rcases h with h|⟨ys,h,⟨hl,_⟩,hy⟩
  ·simp only[rZ,r8] at h;exact⟨true,[],by rw[h];rfl,by simp,by simp⟩
  ·simp only[rZ,r8] at h;obtain⟨l,h1,h2⟩:=zhj (h:=AK) (Q:=Rp) ys λy UK=>by
    obtain⟨cs,g1,g2⟩:=hy y UK;obtain⟨p,g3,g4⟩:=zpJ g1;rw[g3,ztz] at g2;exact⟨p,g2.symm,g4⟩
   subst h1;rw[oO] at hl;exact⟨false,l,by rw[h];rfl,hl,h2⟩
def zpL{n:Nat}{xs:aj}(h:jx prog n 30 xs):∃e nl l,xs=aE e++[xO nl l]/\(oY e/\Rg e)/\l.length<=maxLen/\∀p∈l,Rp p:=by
 cases n with
 | zero=>exact h.elim
 | succ n =>
  simp only[jx,underlying30,c30] at h;obtain⟨hl,h⟩:=h;have f0:=h ⟨ "E",27,0,false,"","",0⟩ (by simp)
  have f1:=h ⟨ "Texts",28,10,false,"","",104⟩ (by simp)
  clear h;simp only[c27,c28] at f0 f1;rw[E0] at f0;obtain⟨e,he,ge⟩:=JR n _ f0;obtain⟨x,hx⟩:∃x,(xs.drop 10).take 1=[x]:=by
   match xs,hl with
   | [_,_,_,_,_,_,_,_,_,_,x],_=>exact⟨x,rfl⟩
  rw[hx] at f1;obtain⟨nl,l,rfl,k1,k2⟩:=zpK f1;rw[zV,V.agg.injEq] at he;refine⟨e,nl,l,?_,ge,k1,k2⟩;have e1:(xs.drop 10).take 1=xs.drop 10:=Af (by simp[hl])
  rw[he,<- hx,e1,Cy]
end
section
open Go Go.Vm Go.Vm.Sx
def UM(nl:Bool)(l:List Tx):aX (xO nl l)=xO nl l:=BN ..
def FM:∀(t:aR)(w:Wd)(i:Nat),Ap w->Ap (mV w i t)
 | [],w,i,h=>h
 | b::t,w,i,h=>by
  simp only[mV];exact FM t _ _ (uX (FW w) w _ b (bV _) h)
def zpM{e:E}{t:aR}(hc:AH e)(hr:Rg e):lS (vj e t):=by
 unfold vj;cases hw:h_ e with
 | none=>exact(by decide:lS c_)
 | some w=>exact tv _ _ (FM t w 0 (BY _ e w (bV _) hc hr hw))
def zpN{t:aR}(h:∀b∈t,b<256)(n:Nat):∀b∈t.take n,b<256:=λb hb=>h b (EZ hb)
def zpO{t:aR}(h:∀b∈t,b<256):∀b∈LZ t,b<256:=by
 unfold LZ;split
 ·exact zpN h 40
 ·exact h
end
section
open Go Go.Vm
variable{gl:Gl}
def UN:prog.underlying 106=some (.slice 4):=by kernel_rfl
def z4:qO prog 4=some (.bool false):=by kernel_rfl
def UO:∃i,prog.info? 4=some i/\i.bytes=1:=by
 have:(prog.info? 4).map (·.bytes)=some 1:=by kernel_rfl
 simpa using this
def Be:∀n,(List.replicate n (V.bool false).cells).flatten=eY (List.replicate n false)
 | 0=>rfl
 | n+1=>by simp only[List.replicate_succ,List.flatten_cons,Be n];rfl
def zfb{t:Nat}{H:Hp}(h:0<t)(he:H.aS=[]):ql 0 [] t H=H:=by
 obtain⟨bs,es⟩:=H
 dsimp only at he
 subst he;simp only[ql];have:Nat.ble t 0=false:=by
  cases t with
  | zero=>omega
  | succ t=>rfl
 simp[this]
def XT{H:Hp}{b i:Nat}{l:List Bool}{x:Bool}{env:aj}{lk:aC}{df:aV}(h:H.get b=some (.cells (eY l) 4))(hi:i<l.length) :
  qV prog 4 H lk df (some (.bool x,env)) (some (.ptr b i))=some (.skip,⟨env,H.set b (.cells (eY (l.set i x)) 4),lk,df⟩):=by
 have dz:(eY l).all (λc=>!(locked c))=true:=by
  rw[Cf];intro c hc;obtain⟨y,_,rfl⟩:=r7.1 hc;rfl
 have hle:i+1<=(eY l).length:=by simp[eY];omega
 rw[jn LK h rfl rfl hle (w9 dz hle),qR rfl];have:Vm.storeCells (eY l) i (V.bool x).laid=eY (l.set i x):=by simp[V.laid,Vm.storeCells,eY,List.map_set]
 rw[this]
def XU{α:Type}(l:List α)(i:Nat)(x:α)(h:i<l.length):(l.set i x).take (i+1)=l.take i++[x]:=by
 apply HO;intro j;rw[Bk,AM]
 by_cases hj:j<i
 ·rw[if_pos (by omega),if_neg (by omega),nH (by simp;omega),Bk,if_pos hj]
 ·by_cases he:j=i
  ·subst he;rw[if_pos (by omega),if_pos rfl,if_pos h,nN (by rw[tR];omega),tR,NC (DK h),G4]
   rfl
  ·rw[if_neg (by omega),nN (by simp;omega)]
   simp only[tR];rw[NC (DK h)];rw[tE (by simp;omega)]
def XV{H:Hp}{l:List Bool}:jM prog H 106 (dn l)=some (l.length:Int):=by
 simp[dn,Sx.lv,jM,eY]
def UP{l:List Bool}{k:Nat}{b:Bool}(h:l[k]?=some b):zO prog 106 (dn l) (k:Int)=some (.vp [.bool b]):=by
 have hk:¬((k:Int)<0):=by omega
 have hn:nth (eY l) k=some (.bool b):=Pz h;simp[dn,Sx.lv,zO,LK,hk,hn,V.cells]
def UQ{b off n cap:Nat}{k:Nat}(h:k<n):zO prog 106 (.sr b off n cap) (k:Int)=some (.ptr b (off+k)):=by
 simp[zO,LK,h]
def Ky{H:Hp}{g:Nat->Nat->bS}{v:V}:zA prog H g 4 (.vp [v])=some v:=by simp[zA,kL,El,nth,Kk]
def v5{env:aj}{t a b c d:Nat}:jj env t (some (.sr a b c d))=some (.sr a b c d,env):=rfl
def XW{cx:Cx}{takes:bA}{dst:eC}{type:ai}{pos:String}{after:Array Edge}{guard:i_}{env:aj}{H:Hp}{lk:aC}{df:aV}{lo:aH}{k:Nat}(hP:cx.P=prog)(hu:cx.uq 4=false)(hl:aq env lo=some (.int .i64 (k:Int)))(hk:k≠0)(fB:k<=140737488355328) :
  cx.op takes ⟨dst,.makeSlice 106 lo lo,type,pos,after,guard⟩ env H lk df=some (.val (.sr H.af.length 0 k k),⟨env,H.push (.cells (eY (List.replicate k false)) 4),lk,df⟩):=by
 obtain⟨inf,Dj,ER⟩:=UO;rw[zpi (n:=1) (z:=.bool false) (k:=k) (by rw[hP];exact UN) (by rw[hP];exact LK) (by rw[hP];exact z4) hu (by rw[hP];exact Dj) (by decide) rfl rfl hl hl (by rw[ER];exact Sx.gR (by omega) (by omega)) hk,Be]
def lZ(t:aR):List Bool:=true::List.replicate t.length false
def zsq [ir gl](hk:∀args,gl.hk 55 args=none){n:Nat}{nl:Bool}{t:aR}(nu:t.length<=65536) :
  zl prog gl (n+1) 55 [zI nl t] ⟨[],[]⟩=some (.ret (.sr 0 0 (t.length+1) (t.length+1)),⟨[.cells (eY (lZ t)) 4],[]⟩):=by
 suffices eG:go ⟨prog,gl.g,zl prog gl n,gl.uq⟩ n (Fx prog f55.results.toList λu H1=>u=.sr 0 0 (t.length+1) (t.length+1)/\H1=⟨[.cells (eY (lZ t)) 4],[]⟩) [.c (f55.body.getD .skip)] .normal ⟨[zI nl t]++List.replicate 10 (.bx []),⟨[],[]⟩,[],[]⟩ by
  obtain⟨u,H1,h1,rfl,rfl⟩:=jm (gl:=gl) (f:=55) (bs:=[]) (es:=[]) (args:=[zI nl t]) (n:=n) (hk _) (λH=>ir.Iz _ _ _ _) func55 rfl eG;rw[h1];exact congrArg some (congrArg (Prod.mk _) (zfb (by simp[V.top]) rfl))
 have hb:eY (lZ t)=eY ((List.replicate (t.length+1) false).set 0 true):=rfl;have b8:=λenv=>XT (H:=⟨[.cells (eY (List.replicate (t.length+1) false)) 4],[]⟩) (b:=0) (i:=0) (l:=List.replicate (t.length+1) false) (x:=true) (env:=env) (lk:=[]) (df:=[]) rfl (by simp)
 have sM:zO prog 106 (.sr 0 0 (t.length+1) (t.length+1)) 0=some (.ptr 0 0):=UQ (b:=0) (off:=0) (n:=t.length+1) (cap:=t.length+1) (k:=0) (by omega)
 simp only[f55,tS,zc];refine ze ?_;simp only[BA,cM,cN,List.replicate];refine ze ?_;simp only[BA,zb,zg,cM,cN,zS,xL,qf (show t.length<2 ^ 60 by omega)]
 rw[XW (k:=t.length+1) rfl (ir.out _) (by rfl) (by omega) (by omega)]
 simp only[BA,qc,zb,zg,cM,cN,v5];refine ze ?_;simp only[BA,zb,zg,cM,cN,jt,sM,b8];refine ze ?_;simp only[BA,zb,zg,cM,cN,jt,v5];simp only[go_ret,zo,Fx]
 refine⟨trivial,[.sr 0 0 (t.length+1) (t.length+1)],rfl,rfl,?_⟩;rw[hb];rfl
def gE(a b:List Bool):List Bool:=List.zipWith (· || ·) a b
def kY{a b:List Bool}(h:a.length=b.length):(gE a b).length=a.length:=by simp[gE,h]
def zk4{a b:List Bool}{i:Nat}{x y:Bool}(ha:a[i]?=some x)(hb:b[i]?=some y):(gE a b)[i]?=some (x || y):=by simp only[gE,List.getElem?_zipWith,ha,hb]
def zsr [ir gl](hk:∀args,gl.hk 82 args=none){n:Nat}{a b:List Bool}(ha0:a≠[])(AT:a.length=b.length)(DV:a.length<=65537)(hn:a.length<n) :
  zl prog gl (n+1) 82 [dn a,dn b] ⟨[],[]⟩=some (.ret (.sr 0 0 a.length a.length),⟨[.cells (eY (gE a b)) 4],[]⟩):=by
 have iq:0<a.length:=NA.2 ha0
 suffices eG:go ⟨prog,gl.g,zl prog gl n,gl.uq⟩ n (Fx prog f82.results.toList λu H1=>u=.sr 0 0 a.length a.length/\H1=⟨[.cells (eY (gE a b)) 4],[]⟩) [.c (f82.body.getD .skip)] .normal ⟨[dn a,dn b]++List.replicate 28 (.bx []),⟨[],[]⟩,[],[]⟩ by
  obtain⟨u,H1,h1,rfl,rfl⟩:=jm (gl:=gl) (f:=82) (bs:=[]) (es:=[]) (args:=[dn a,dn b]) (n:=n) (hk _) (λH=>ir.Iz _ _ _ _) func82 rfl eG;rw[h1];exact congrArg some (congrArg (Prod.mk _) (zfb (by simp[V.top]) rfl))
 simp only[f82,tS,zc];refine ze ?_;simp only[BA,cM,cN,List.replicate];refine ze ?_;simp only[BA,zb,zg,cM,cN,qI,XV];rw[XW (k:=a.length) rfl (ir.out _) (by rfl) (by omega) (by omega)]
 simp only[BA,qc,zb,zg,cM,cN,v5];refine ze ?_;simp only[BA,cM,cN]
 refine km (λm s=>∃k env l,m+k=a.length/\s=⟨env,⟨[.cells (eY l) 4],[]⟩,[],[]⟩/\env.length=30/\nth env 0=some (dn a)/\nth env 1=some (dn b)/\nth env 5=some (.sr 0 0 a.length a.length)/\nth env 6=some (.int .i64 (k:Nat))/\l.length=a.length/\l.take k=(gE a b).take k) a.length hn ⟨0,_,List.replicate a.length false,rfl,rfl,rfl,rfl,rfl,rfl,rfl,by simp,rfl⟩ ?_
 rintro m s ⟨k,env,l,Ck,rfl,aW,e0,e1,e5,e6,Ct,bu⟩;simp only[zc];refine ze ?_;simp only[BA,Nat.reduceEqDiff,za,cI,Nat.reduceLT,aZ,e0,e6,aW,qI,XV,jr]
 by_cases fB:k<a.length
 ·refine .inl ⟨by simp;omega,?_⟩
  obtain⟨x,hx⟩:∃x,a[k]?=some x:=⟨a[k],by simp[fB]⟩
  obtain⟨y,hy⟩:∃y,b[k]?=some y:=⟨b[k]'(by omega),by simp[show k<b.length by omega]⟩
  have Bo:=zk4 hx hy;have sM:=UQ (b:=0) (off:=0) (n:=a.length) (cap:=a.length) (k:=k) fB;rw[eM] at sM;have Ni:=UP hx;have UR:=UP hy;have b8:=λenv v=>XT (H:=⟨[.cells (eY l) 4],[]⟩) (b:=0) (i:=k) (l:=l) (x:=v) (env:=env) (lk:=[]) (df:=[]) rfl (by omega)
  have hN:∀bB,bB.length=30->nth bB 0=some (dn a)->nth bB 1=some (dn b)->nth bB 5=some (.sr 0 0 a.length a.length)->nth bB 6=some (.int .i64 ((k+1:Nat):Int)) ->
    ∃i,i<m/\∃k' env l',i+k'=a.length/\(⟨bB,⟨[.cells (eY (l.set k (x || y))) 4],[]⟩,[],[]⟩:St)=⟨env,⟨[.cells (eY l') 4],[]⟩,[],[]⟩/\env.length=30/\nth env 0=some (dn a)/\nth env 1=some (dn b)/\nth env 5=some (.sr 0 0 a.length a.length)/\nth env 6=some (.int .i64 (k':Nat))/\l'.length=a.length/\l'.take k'=(gE a b).take k' :=
   λbB g0 g1 g2 g3 g4=>⟨m - 1,by omega,k+1,bB,l.set k (x || y),by omega,rfl,g0,g1,g2,g3,g4,by simp[Ct],by
    rw[XU _ _ _ (by omega),bu,G1,Bo];rfl⟩
  try simp only[bC,zc,zU]
  refine ze ?_;cases x with
  | true =>
   simp only[BA,Nat.reduceEqDiff,za,cI,Nat.reduceLT,aZ,zb,zg,jb,zF,qa,gS,yh,e0,e1,e5,e6,aW,qI,jt,Ni,UR,sM,Ky,b8];refine ze ?_;simp only[BA,Nat.reduceEqDiff,za,cI,Nat.reduceLT,aZ,e6,aW,qf (show k<2 ^ 60 by omega),zo,bL]
   refine hN _ ?_ ?_ ?_ ?_ ?_
   ·simp[aW]
   ·simp[za,e0]
   ·simp[za,e1]
   ·simp[za,e5]
   ·simp[za,aW]
  | false =>
   simp only[BA,Nat.reduceEqDiff,za,cI,Nat.reduceLT,aZ,zb,zg,jb,zF,qa,eX,kZ,e0,e1,e5,e6,aW,qI,jt,Ni,UR,sM,Ky,b8];refine ze ?_;simp only[BA,Nat.reduceEqDiff,za,cI,Nat.reduceLT,aZ,e6,aW,qf (show k<2 ^ 60 by omega),zo,bL]
   refine hN _ ?_ ?_ ?_ ?_ ?_
   ·simp[aW]
   ·simp[za,e0]
   ·simp[za,e1]
   ·simp[za,e5]
   ·simp[za,aW]
 ·refine .inr ⟨by simp;omega,?_⟩
  obtain rfl:k=a.length:=by omega
  simp only[jY,q8,qB,zo,dV,zc,pP,aT,zo];refine ze ?_;simp only[BA,Nat.reduceEqDiff,za,cI,Nat.reduceLT,aZ,e5,aW,jt,v5];simp only[go_ret,zo,Fx]
  have hl:l=gE a b:=by
   have h1:l.take a.length=l:=Af (by omega)
   have h2:(gE a b).take a.length=gE a b:=Af (by rw[kY AT];omega)
   rw[<- h1,bu,h2]
  refine⟨trivial,[.sr 0 0 a.length a.length],?_,rfl,by rw[hl]⟩
  simp[zG,za,aW]
end
section
open Go Go.Vm
variable{gl:Gl}
def y9(f:List Bool->List Bool):Nat->List Bool->List Bool
 | 0,one=>one
 | k+1,one=>if gE one (f one)=one then one else y9 f k (gE one (f one))
mutual
def rE:E->aR->List Bool->List Bool
 | .mk op _ s0 s1 s2 s3 _ mn mx _ args=>λt fr =>
  if op=1 then fr
  else if op=2 then false::List.zipWith (λf c=>f && qN (s0,s1,s2,s3) c) fr t
  else if op=5 then rC args t fr
  else if op=6 then rU args t fr (List.replicate fr.length false)
  else if op=7 then rH args mn mx t fr
  else List.replicate fr.length false
def rC:List E->aR->List Bool->List Bool
 | []=>λ_ fr=>fr
 | a::l=>λt fr=>rC l t (rE a t fr)
def rU:List E->aR->List Bool->List Bool->List Bool
 | []=>λ_ _ acc=>acc
 | a::l=>λt fr acc=>rU l t fr (gE acc (rE a t fr))
def rH:List E->Int->Int->aR->List Bool->List Bool
 | []=>λ_ _ _ fr=>fr
 | a::_=>λmn mx t fr =>
  if mn=0 then gE (if mx = -1 then y9 (rE a t) (fr.length+1) (rE a t fr) else rE a t fr) fr
  else if mx = -1 then y9 (rE a t) (fr.length+1) (rE a t fr) else rE a t fr
end
def zdi{f:List Bool->List Bool}{m:Nat}(hf:∀l,l.length=m->(f l).length=m):∀(k:Nat)(l:List Bool),l.length=m->(y9 f k l).length=m
 | 0,l,h=>h
 | k+1,l,h=>by
  have h2:(gE l (f l)).length=m:=by rw[kY (by rw[h,hf l h])];exact h
  unfold y9;split
  ·exact h
  ·exact zdi hf k _ h2
mutual
def gy:∀(e:E)(t:aR)(fr:List Bool),fr.length=t.length+1->(rE e t fr).length=t.length+1
 | .mk op _ s0 s1 s2 s3 _ mn mx _ args,t,fr,h=>by
  simp only[rE];split
  ·exact h
  split
  ·simp;omega
  split
  ·exact ES args t fr h
  split
  ·exact JT args t fr _ h (by simp;exact h)
  split
  ·exact PD args mn mx t fr h
  ·simp;exact h
def ES:∀(l:List E)(t:aR)(fr:List Bool),fr.length=t.length+1->(rC l t fr).length=t.length+1
 | [],t,fr,h=>by simp only[rC];exact h
 | a::l,t,fr,h=>by simp only[rC];exact ES l t _ (gy a t fr h)
def JT:∀(l:List E)(t:aR)(fr acc:List Bool),fr.length=t.length+1->acc.length=t.length+1->(rU l t fr acc).length=t.length+1
 | [],t,fr,acc,h,h2=>by simp only[rU];exact h2
 | a::l,t,fr,acc,h,h2=>by
  simp only[rU];exact JT l t fr _ h (by rw[kY (by rw[h2,gy a t fr h])];exact h2)
def PD:∀(l:List E)(mn mx:Int)(t:aR)(fr:List Bool),fr.length=t.length+1->(rH l mn mx t fr).length=t.length+1
 | [],mn,mx,t,fr,h=>by simp only[rH];exact h
 | a::l,mn,mx,t,fr,h=>by
  have h1:=gy a t fr h;have h2:(if mx = -1 then y9 (rE a t) (fr.length+1) (rE a t fr) else rE a t fr).length=t.length+1:=by
   split
   ·exact zdi (λl hl=>gy a t l hl) _ _ h1
   ·exact h1
  simp only[rH];split
  ·rw[kY (by rw[h2,h])];exact h2
  ·exact h2
end
structure RdB(g:Nat->Nat->bS)(bs:List aN)(x:V)(a:List Bool):Prop where
 cl:aX x=x
 tk:∀env t,jj env t (some x)=some (x,env)
 ln:∀ls,jM prog ⟨bs++ls,[]⟩ 106 x=some (a.length:Int)
 ix:∀(k:Nat)(v:Bool),a[k]?=some v->∃p,zO prog 106 x (k:Int)=some p/\aX p=p/\∀ls,zA prog ⟨bs++ls,[]⟩ g 4 p=some (.bool v)
def ztA{g:Nat->Nat->bS}{bs:List aN}{a:List Bool}:RdB g bs (dn a) a :=
 ⟨qI a,λ_ _=>rfl,λ_=>XV,λ_k _v h=>⟨_,UP h,rfl,λ_=>Ky⟩⟩
def zss{g:Nat->Nat->bS}{bs:List aN}{a:List Bool}{j:Nat}(h:nth bs j=some (.cells (eY a) 4)):RdB g bs (.sr j 0 a.length a.length) a:=by
 refine⟨rfl,λ_ _=>rfl,λ_=>by simp[jM],λk v hk=>⟨_,UQ (dW.1 hk).1,rfl,λls=>?_⟩⟩
 rw[eM];have hj:j<bs.length:=kQ (H:=⟨bs,[]⟩) h;refine zM El (cs:=eY a) (ty:=4) ?_ (Pz hk);show nth (bs++ls) j=_;rw[zf,nH hj,<- zf];exact h
def zrp [ir gl](hk:∀j n b,gl.hk 82 [.sr j 0 n n,dn b]=none){n j:Nat}{bs:List aN}{a b:List Bool}(hj:nth bs j=some (.cells (eY a) 4))(ha0:a≠[])(AT:a.length=b.length)(DV:a.length<=65537)(hn:a.length<n) :
  zl prog gl (n+1) 82 [.sr j 0 a.length a.length,dn b] ⟨bs,[]⟩=some (.ret (.sr bs.length 0 a.length a.length),⟨bs++[.cells (eY (gE a b)) 4],[]⟩):=by
 have iq:0<a.length:=NA.2 ha0;have rx:=zss (g:=gl.g) hj;obtain⟨x,hx⟩:∃x,x=V.sr j 0 a.length a.length:=⟨_,rfl⟩;have hk:=hk j a.length b;rw[<- hx] at rx hk ⊢;have ry:RdB gl.g bs (dn b) b:=ztA
 suffices eG:go ⟨prog,gl.g,zl prog gl n,gl.uq⟩ n (Fx prog f82.results.toList λu H1=>u=.sr bs.length 0 a.length a.length/\H1=⟨bs++[.cells (eY (gE a b)) 4],[]⟩) [.c (f82.body.getD .skip)] .normal ⟨[x,dn b]++List.replicate 28 (.bx []),⟨bs,[]⟩,[],[]⟩ by
  obtain⟨u,H1,h1,rfl,rfl⟩:=jm (gl:=gl) (f:=82) (bs:=bs) (es:=[]) (args:=[x,dn b]) (n:=n) hk (λH=>ir.Iz _ _ _ _) func82 rfl eG;rw[h1];refine congrArg some (congrArg (Prod.mk _) ?_);have:Nat.ble (V.sr bs.length 0 a.length a.length).top bs.length=false:=by
   cases h:Nat.ble (V.sr bs.length 0 a.length a.length).top bs.length with
   | false=>rfl
   | true=>have:=pO h;simp[V.top] at this;omega
  simp[ql,this]
 have rln:∀l,jM prog ⟨bs++[.cells (eY l) 4],[]⟩ 106 x=some (a.length:Int):=λl=>rx.ln _;have acS:jM prog ⟨bs,[]⟩ 106 x=some (a.length:Int):=by have:=rx.ln [];rwa [uf] at this
 simp only[f82,tS,zc];refine ze ?_;simp only[BA,cM,cN,List.replicate];refine ze ?_;simp only[BA,zb,zg,cM,cN,rx.cl,acS];rw[XW (k:=a.length) rfl (ir.out _) (by rfl) (by omega) (by omega)]
 simp only[BA,qc,zb,zg,cM,cN,v5];refine ze ?_;simp only[BA,cM,cN]
 refine km (λm s=>∃k env l,m+k=a.length/\s=⟨env,⟨bs++[.cells (eY l) 4],[]⟩,[],[]⟩/\env.length=30/\nth env 0=some x/\nth env 1=some (dn b)/\nth env 5=some (.sr bs.length 0 a.length a.length)/\nth env 6=some (.int .i64 (k:Nat))/\l.length=a.length/\l.take k=(gE a b).take k) a.length hn ⟨0,_,List.replicate a.length false,rfl,rfl,rfl,rfl,rfl,rfl,rfl,by simp,rfl⟩ ?_
 rintro m s ⟨k,env,l,Ck,rfl,aW,e0,e1,e5,e6,Ct,bu⟩;simp only[zc];refine ze ?_;simp only[BA,Nat.reduceEqDiff,za,cI,Nat.reduceLT,aZ,e0,e6,aW,rx.cl,rln,jr]
 by_cases fB:k<a.length
 ·refine .inl ⟨by simp;omega,?_⟩
  obtain⟨v,hv⟩:∃x,a[k]?=some x:=⟨a[k],by simp[fB]⟩
  obtain⟨y,hy⟩:∃y,b[k]?=some y:=⟨b[k]'(by omega),by simp[show k<b.length by omega]⟩
  have Bo:=zk4 hv hy;have sM:=UQ (b:=bs.length) (off:=0) (n:=a.length) (cap:=a.length) (k:=k) fB;rw[eM] at sM;obtain⟨p,Ni,Vz,o6⟩:=rx.ix k v hv;have o6:=o6 [.cells (eY l) 4];have UR:=UP hy;have b8:=λenv v=>XT (H:=⟨bs++[.cells (eY l) 4],[]⟩) (b:=bs.length) (i:=k) (l:=l) (x:=v) (env:=env) (lk:=[]) (df:=[]) (by show nth (bs++[_]) bs.length=_;rw[zf];simp) (by omega)
  have iH:∀z,Hp.set ⟨bs++[.cells (eY l) 4],[]⟩ bs.length (.cells (eY (l.set k z)) 4)=⟨bs++[.cells (eY (l.set k z)) 4],[]⟩:=λz=>by simp[Hp.set]
  have hN:∀bB,bB.length=30->nth bB 0=some x->nth bB 1=some (dn b)->nth bB 5=some (.sr bs.length 0 a.length a.length)->nth bB 6=some (.int .i64 ((k+1:Nat):Int)) ->
    ∃i,i<m/\∃k' env l',i+k'=a.length/\(⟨bB,⟨bs++[.cells (eY (l.set k (v || y))) 4],[]⟩,[],[]⟩:St)=⟨env,⟨bs++[.cells (eY l') 4],[]⟩,[],[]⟩/\env.length=30/\nth env 0=some x/\nth env 1=some (dn b)/\nth env 5=some (.sr bs.length 0 a.length a.length)/\nth env 6=some (.int .i64 (k':Nat))/\l'.length=a.length/\l'.take k'=(gE a b).take k' :=
   λbB g0 g1 g2 g3 g4=>⟨m - 1,by omega,k+1,bB,l.set k (v || y),by omega,rfl,g0,g1,g2,g3,g4,by simp[Ct],by
    rw[XU _ _ _ (by omega),bu,G1,Bo];rfl⟩
  try simp only[bC,zc,zU]
  refine ze ?_;cases v with
  | true =>
   simp only[BA,Nat.reduceEqDiff,za,cI,Nat.reduceLT,aZ,zb,zg,jb,zF,qa,gS,yh,e0,e1,e5,e6,aW,rx.cl,Vz,o6,qI,jt,Ni,UR,sM,Ky,b8,iH];refine ze ?_;simp only[BA,Nat.reduceEqDiff,za,cI,Nat.reduceLT,aZ,e6,aW,qf (show k<2 ^ 60 by omega),zo,bL]
   refine hN _ ?_ ?_ ?_ ?_ ?_
   ·simp[aW]
   ·simp[za,e0]
   ·simp[za,e1]
   ·simp[za,e5]
   ·simp[za,aW]
  | false =>
   simp only[BA,Nat.reduceEqDiff,za,cI,Nat.reduceLT,aZ,zb,zg,jb,zF,qa,eX,kZ,e0,e1,e5,e6,aW,rx.cl,Vz,o6,qI,jt,Ni,UR,sM,Ky,b8,iH];refine ze ?_;simp only[BA,Nat.reduceEqDiff,za,cI,Nat.reduceLT,aZ,e6,aW,qf (show k<2 ^ 60 by omega),zo,bL]
   refine hN _ ?_ ?_ ?_ ?_ ?_
   ·simp[aW]
   ·simp[za,e0]
   ·simp[za,e1]
   ·simp[za,e5]
   ·simp[za,aW]
 ·refine .inr ⟨by simp;omega,?_⟩
  obtain rfl:k=a.length:=by omega
  simp only[jY,q8,qB,zo,dV,zc,pP,aT,zo];refine ze ?_;simp only[BA,Nat.reduceEqDiff,za,cI,Nat.reduceLT,aZ,e5,aW,jt,v5];simp only[go_ret,zo,Fx]
  have hl:l=gE a b:=by
   have h1:l.take a.length=l:=Af (by omega)
   have h2:(gE a b).take a.length=gE a b:=Af (by rw[kY AT];omega)
   rw[<- h1,bu,h2]
  refine⟨trivial,[.sr bs.length 0 a.length a.length],?_,rfl,by rw[hl]⟩
  simp[zG,za,aW]
end
section
open Go Go.Vm
variable{gl:Gl}
def Nj:E->List E
 | .mk _ _ _ _ _ _ _ _ _ _ args=>args
def Nk:E->Int
 | .mk op _ _ _ _ _ _ _ _ _ _=>op
structure GV(gl:Gl)(e:E)(nl:Bool)(t:aR):Prop where
 US:∀fr,gl.hk 54 [enc e,zI nl t,dn fr]=none
 UT:∀args,gl.hk 82 args=none
 h81:∀s b,lS s->b<256->gl.hk 81 [bI s,.int .i64 (b:Nat)]=some (.bool (qN s b))
 Dk:∀a fr,nodes a<nodes e->AH a->Rg a->Wf a->Can a->fr.length=t.length+1->gl.hk 54 [enc a,zI nl t,dn fr]=some (dn (rE a t fr))
 L3:Nk e=7->∀fr,fr.length=t.length+1->gl.hk 83 [enc e,zI nl t,dn fr]=some (dn (rE e t fr))
def cH{n:Nat}(hn:1<=n){f:Nat}{fn:Func}{body:Code}{args:aj}{v:V}(hf:prog.funcs[f]?=some fn)(hb:fn.body=some body)(h:gl.hk f args=some v)(H:Hp):Cx.cX ⟨prog,gl.g,zl prog gl n,gl.uq⟩ f args H=some (.val v,H):=by
 obtain⟨m,rfl⟩:∃m,n=m+1:=⟨n - 1,by omega⟩
 exact zR hf hb (yM h)
def ET(X:List Bool)(u:V)(bs:List aN):Prop:=u=dn X\/∃j,u=.sr j 0 X.length X.length/\nth bs j=some (.cells (eY X) 4)
def ET.cl{X:List Bool}{u:V}{bs:List aN}(h:ET X u bs):aX u=u/\∀env t,jj env t (some u)=some (u,env):=by
 rcases h with rfl|⟨j,rfl,_⟩
 ·exact⟨qI X,λ_ _=>rfl⟩
 ·exact⟨rfl,λ_ _=>rfl⟩
def ET.frz{X:List Bool}{u:V}{bs:List aN}(h:ET X u bs):∃H',ql 0 [] u.top ⟨bs,[]⟩=H'/\mL H' u (dn X):=by
 rcases h with rfl|⟨j,rfl,hj⟩
 ·exact⟨_,rfl,.same (vA X)⟩
 ·refine⟨⟨bs,[]⟩,zfb (by simp[V.top]) rfl,?_⟩
  have:=mL.sr (H:=⟨bs,[]⟩) (b:=j) (off:=0) (len:=X.length) (cap:=X.length) (cs:=eY X) (t:=4) (by rw[<- zf];exact hj) (oG X) (by simp[eY])
  rw[E0,Af (by simp[eY])] at this
  exact this
def zst{H:Hp}{g:Nat->Nat->bS}{b:Nat}{_e:E}{op pl s0 s1 s2 s3 mn mx:Int}{text:aR}{nl:Bool}{args:List E}(h:H.get b=some (.cells (aE (.mk op pl s0 s1 s2 s3 text mn mx nl args)) 27)):zA prog H g 24 (.ptr b 2)=some (bI (s0,s1,s2,s3)):=by
 rw[vd C5 C6 h (by rw[qC];decide)]
 rfl
structure FN(e:E)(nl:Bool)(t:aR)(fr:List Bool)(env:aj):Prop where
 len:env.length=91
 e1:nth env 1=some (zI nl t)
 e2:nth env 2=some (dn fr)
 e3:nth env 3=some (.ptr 0 0)
def FN.set{e:E}{nl:Bool}{t:aR}{fr:List Bool}{env:aj}(h:FN e nl t fr env)(d:Nat)(v:V)(hd:4<=d):FN e nl t fr (env.set d v) where
 len:=by simp[h.len]
 e1:=by rw[za,if_neg (by omega)];exact h.e1
 e2:=by rw[za,if_neg (by omega)];exact h.e2
 e3:=by rw[za,if_neg (by omega)];exact h.e3
def FO:∀l:List Bool,(dr (eY l)).map aX=eY l
 | []=>rfl
 | a::l=>by
  have:=FO l;simp only[eY,iC,dr,V.cells,iQ,gF] at this ⊢;rw[this];rfl
def zpQ(l:List Bool):(eY l).all (λc=>!(locked c))=true:=by
 rw[Cf];intro c hc;obtain⟨y,_,rfl⟩:=r7.1 hc;rfl
def BP{xs cs:aj}(h:xs.length=cs.length):Vm.storeCells cs 0 xs=xs:=by
 apply HO;intro j;rw[zZ _ _ _ _ (by omega)]
 split
 ·simp
 ·rw[tE (by omega),tE (by omega)]
def XX{a:E}:∀{l:List E},a∈l->nodes a<=c8 l
 | b::l,h=>by
  simp only[c8];rcases cS.1 h with rfl|h
  ·omega
  ·have:=XX h;omega
def sN.mem{a:E}:∀{l:List E},sN l->a∈l->Can a
 | b::l,h,ha=>by
  rcases cS.1 ha with rfl|ha
  ·exact h.1
  ·exact sN.mem h.2 ha
def ziU{env:aj}{t:Nat}{l:List Bool}:jj env t (some (dn l))=some (dn l,env):=rfl
def zrq{c:Nat}(h:c<256):vM prog 5 3 (.int .u8 (c:Nat))=some (.int .i64 (c:Nat)):=by
 have h5:prog.underlying 5=some (.int .u8):=by kernel_rfl
 have h3:prog.underlying 3=some (.int .i64):=by kernel_rfl
 simp only[vM,h5,h3,Option.bind_eq_bind,cG];rw[Gv (by omega) (by omega)]
def zf5{cx:Cx}{takes:bA}{dst:eC}{type:ai}{pos:String}{after:Array Edge}{guard:i_}{env:aj}{H:Hp}{lk:aC}{df:aV}{x:aH}:cx.op takes ⟨dst,.convert 5 3 x,type,pos,after,guard⟩ env H lk df=fU env H lk df ((aq env x).bind (vM cx.P 5 3)):=yF rfl
def cB:Code->Code
 | .seq _ b=>b
 | c=>c
def zsu [ir gl]{n:Nat}{nl:Bool}{t:aR}{fr:List Bool}{e:E}(hg:GV gl e nl t)(hc:AH e)(hr:Rg e)(hw:Wf e)(UU:Can e)(ey:fr.length=t.length+1)(nu:t.length<=65536)(ht:∀b∈t,b<256)(hn:65600<n) :
  ∃u H',zl prog gl (n+1) 54 [enc e,zI nl t,dn fr] ⟨[],[]⟩=some (.ret u,H')/\mL H' u (dn (rE e t fr)):=by
 suffices eG:go ⟨prog,gl.g,zl prog gl n,gl.uq⟩ n (Fx prog f54.results.toList λu H1=>∃bs,H1=⟨bs,[]⟩/\ET (rE e t fr) u bs) [.c (f54.body.getD .skip)] .normal ⟨[enc e,zI nl t,dn fr]++List.replicate 88 (.bx []),⟨[],[]⟩,[],[]⟩ by
  obtain⟨u,H1,h1,bs,rfl,h2⟩:=jm (gl:=gl) (f:=54) (bs:=[]) (es:=[]) (args:=[enc e,zI nl t,dn fr]) (n:=n) (hg.US fr) (λH=>ir.Iz _ _ _ _) func54 rfl eG;obtain⟨H',h3,h4⟩:=h2.frz;refine⟨u,H',?_,h4⟩;rw[h1,<- h3];rfl
 obtain⟨op,pl,s0,s1,s2,s3,text,mn,mx,nl',args⟩:=e;have hXl:(rE (.mk op pl s0 s1 s2 s3 text mn mx nl' args) t fr).length=t.length+1:=gy _ t fr ey;generalize Rq:rE (.mk op pl s0 s1 s2 s3 text mn mx nl' args) t fr=X at hXl ⊢
 have pg:∀ls,nth ([aN.cells (aE (.mk op pl s0 s1 s2 s3 text mn mx nl' args)) 27]++ls) 0=some (.cells (aE (.mk op pl s0 s1 s2 s3 text mn mx nl' args)) 27):=λ_=>rfl;have az:∀ls,zA prog ⟨[aN.cells (aE (.mk op pl s0 s1 s2 s3 text mn mx nl' args)) 27]++ls,[]⟩ gl.g 3 (.ptr 0 0)=some (.int .i64 op):=λls=>zM Rf (pg ls) rfl
 have nD:∀ls,zA prog ⟨[aN.cells (aE (.mk op pl s0 s1 s2 s3 text mn mx nl' args)) 27]++ls,[]⟩ gl.g 25 (.ptr 0 9)=some (qS nl' (bl args)):=λls=>zM LS (pg ls) rfl;have hle:∀ls,zA prog ⟨[aN.cells (aE (.mk op pl s0 s1 s2 s3 text mn mx nl' args)) 27]++ls,[]⟩ gl.g 27 (.ptr 0 0)=some (.agg (aE (.mk op pl s0 s1 s2 s3 text mn mx nl' args))):=λls=>zn4 (pg ls)
 have Bf:∀env u bs',env.length=91->nth env 7=some u->ET X u bs'->go ⟨prog,gl.g,zl prog gl n,gl.uq⟩ n (Fx prog f54.results.toList λu H1=>∃bs,H1=⟨bs,[]⟩/\ET X u bs) [.c (cB (cB (cB (f54.body.getD .skip))))] .normal ⟨env,⟨bs',[]⟩,[],[]⟩:=by
  intro env u bs' aW e7 hu;simp only[f54,cB,tS,zc];refine ze ?_;simp only[BA,za,Nat.reduceLT,e7,aW,hu.cl.1,hu.cl.2];simp only[go_ret,zo,Fx]
  refine⟨trivial,[u],?_,bs',rfl,hu⟩;simp[zG,za,aW]
 simp only[f54,cB,tS,zc] at Bf;simp only[f54,tS,zc,zV];refine ze ?_;simp only[BA,qc,zb,cM,cN,List.replicate,qQ (show eF (.agg (aE (.mk op pl s0 s1 s2 s3 text mn mx nl' args)))=true from rfl),V.laid,wx];refine ze ?_;simp only[BA,zb,zg,cM,cN,qI,XV,ey];rw[XW (k:=t.length+1) rfl (ir.out _) (by rfl) (by omega) (by omega)]
 simp only[BA,qc,zb,zg,cM,cN,v5];refine ze ?_;simp only[BA,zb,zg,cM,cN,Jn];refine lP (λenv=>FN (.mk op pl s0 s1 s2 s3 text mn mx nl' args) nl t fr env/\nth env 7=some (.sr 1 0 (t.length+1) (t.length+1))/\nth env 15=some (.int .i64 op)) ⟨⟨rfl,rfl,rfl,rfl⟩,rfl,rfl⟩ λenv he=>?_
 obtain⟨he,e7,HC⟩:=he;have aW:=he.len;have e1:=he.e1;have e2:=he.e2;have e3:=he.e3;refine ze ?_;simp only[BA,Nat.reduceEqDiff,za,cI,Nat.reduceLT,aZ,HC,aW,qE];simp only[beq_iff_eq,beq_eq_false_iff_ne]
 by_cases h1:op=1
 ·refine .inl ⟨h1,?_⟩;subst h1;obtain rfl:fr=X:=by rw[<- Rq];simp[rE]
  refine ze ?_;simp only[BA,Nat.reduceEqDiff,za,cI,Nat.reduceLT,aZ,e7,e2,aW,jt,qI];rw[zjH (e:=4) (ys:=eY fr) (cs:=eY (List.replicate (t.length+1) false)) (ty:=4) (o:=.no) UN LK (show _=some (V.sr 1 0 (t.length+1) (t.length+1)) by simp[aq,za,aW,aX]) (show _=some (dn fr) by simp[aq,za,aW,qI]) rfl (by simp[eY,ey]) (FO fr) (by simp[eY]) (w9 (zpQ _) (by simp[eY]))]
  rw[BP (by simp[eY,ey]),qR (by simp only[V.top];exact oG fr)]
  simp only[BA];refine Bf _ _ _ (by simp[aW]) (by simp[za,e7];rfl) (.inr ⟨1,by rw[ey],rfl⟩)
 refine .inr ⟨h1,?_⟩;refine ze ?_;simp only[BA,Nat.reduceEqDiff,za,cI,Nat.reduceLT,aZ,HC,aW,qE];simp only[beq_iff_eq,beq_eq_false_iff_ne]
 by_cases h2:op=2
 ·refine .inl ⟨h2,?_⟩;subst h2;have hX:false::List.zipWith (λf c=>f && qN (s0,s1,s2,s3) c) fr t=X:=by rw[<- Rq];simp[rE]
  refine ze ?_;simp only[BA]
  refine km (λm s=>∃k env l,m+k=t.length/\s=⟨env,⟨[aN.cells (aE (.mk 2 pl s0 s1 s2 s3 text mn mx nl' args)) 27,.cells (eY l) 4],[]⟩,[],[]⟩/\FN (.mk 2 pl s0 s1 s2 s3 text mn mx nl' args) nl t fr env/\nth env 7=some (.sr 1 0 (t.length+1) (t.length+1))/\nth env 8=some (.int .i64 (k:Nat))/\l.length=t.length+1/\l.take (k+1)=X.take (k+1)) t.length (by omega) ⟨0,_,List.replicate (t.length+1) false,rfl,rfl,?_,?_,?_,by simp,by rw[<- hX];rfl⟩ ?_
  ·repeat refine FN.set ?_ _ _ (by decide)
   exact he
  ·simp[za,e7]
  ·simp[za,aW]
  clear he e1 e2 e3 e7 HC aW env;rintro m s ⟨k,env,l,Ck,rfl,he,e7,e8,Ct,Dl⟩;have aW:=he.len;have e1:=he.e1;have e2:=he.e2;have e3:=he.e3;simp only[zc];refine ze ?_;simp only[BA,Nat.reduceEqDiff,za,cI,Nat.reduceLT,aZ,e1,e8,aW,zS,xL,jr]
  by_cases hk:k<t.length
  ·refine .inl ⟨by simp;omega,?_⟩
   obtain⟨c,lX⟩:∃c,t[k]?=some c:=⟨t[k],by simp[hk]⟩
   obtain⟨f,hf⟩:∃f,fr[k]?=some f:=⟨fr[k]'(by omega),by simp[show k<fr.length by omega]⟩
   have um:c<256:=ht c (oH lX);have hXk:X[k+1]?=some (f && qN (s0,s1,s2,s3) c):=by
    rw[<- hX,HJ,List.getElem?_zipWith,hf,lX]
   have Ni:=UP hf;have DT:=zn2 (nl:=nl) lX;have sM:=UQ (b:=1) (off:=0) (n:=t.length+1) (cap:=t.length+1) (k:=k+1) (by omega)
   rw[eM] at sM;have lz:=λl=>zst (H:=⟨[aN.cells (aE (.mk 2 pl s0 s1 s2 s3 text mn mx nl' args)) 27,.cells (eY l) 4],[]⟩) (g:=gl.g) (b:=0) (_e:=.mk 2 pl s0 s1 s2 s3 text mn mx nl' args) rfl;have b8:=λenv v=>XT (H:=⟨[aN.cells (aE (.mk 2 pl s0 s1 s2 s3 text mn mx nl' args)) 27,.cells (eY l) 4],[]⟩) (b:=1) (i:=k+1) (l:=l) (x:=v) (env:=env) (lk:=[]) (df:=[]) rfl (by omega)
   have iH:∀z,Hp.set ⟨[aN.cells (aE (.mk 2 pl s0 s1 s2 s3 text mn mx nl' args)) 27,.cells (eY l) 4],[]⟩ 1 (.cells (eY (l.set (k+1) z)) 4)=⟨[aN.cells (aE (.mk 2 pl s0 s1 s2 s3 text mn mx nl' args)) 27,.cells (eY (l.set (k+1) z)) 4],[]⟩:=λz=>rfl;have dQ:=cH (gl:=gl) (n:=n) (by omega) func81 rfl (hg.h81 (s0,s1,s2,s3) c hr.1 um)
   have nJ:vM prog 5 3 (.int .u8 (c:Nat))=some (.int .i64 (c:Nat)):=zrq um
   try simp only[bC,zc,zU]
   cases f with
   | true =>
    refine vZ [6,9,13] [] [(false,false,false,false),(false,false,false,false),(false,false,false,false),(false,false,false,false),(false,false,false,false),(false,false,false,false),(true,false,false,false),(false,false,false,false),(false,false,false,false),(true,false,false,false),(false,false,false,false),(false,false,false,false),(false,false,false,false),(true,false,false,false),(false,false,false,false),(false,true,false,false),(false,false,false,false),(false,false,false,false),(false,true,false,false)] (tk:=[]) (by kernel_rfl) (by kernel_rfl) ?_
    simp only[BA,Nat.reduceEqDiff,za,cI,Nat.reduceLT,aZ,l7,El,XC,C5,Q8,zF,zb,zg,qa,fq,kZ,oh,l8,iP,uP,kA,wo,jU,jy,e1,e2,e3,e7,e8,aW,BW,lz,zS,qI,jt,ww,Ni,DT,sM,Ky,Rk,nJ,dQ,zf5,b8,iH,qf (show k<2 ^ 60 by omega)]
    refine⟨rfl,⟨q6 (p:=.vp [.int .u8 (c:Nat)]) (by simp[aq,za,aW,aX]) Rk rfl,q6 (p:=.ptr 0 2) (by simp[aq,za,aW,aX]) (lz _) (ww _),q6 (p:=.vp [.bool true]) (by simp[aq,za,aW,aX]) Ky rfl,trivial⟩,⟨q6 (p:=.vp [.int .u8 (c:Nat)]) (by simp[aq,za,aW,aX]) Rk rfl,q6 (p:=.ptr 0 2) (by simp[aq,za,aW,aX]) (lz _) (ww _),q6 (p:=.vp [.bool true]) (by simp[aq,za,aW,aX]) Ky rfl,trivial⟩,?_⟩
    refine ze ?_;simp only[BA,Nat.reduceEqDiff,za,cI,Nat.reduceLT,aZ,e8,aW,qf (show k<2 ^ 60 by omega),zo,bL]
    refine⟨m - 1,by omega,k+1,_,l.set (k+1) (qN (s0,s1,s2,s3) c),by omega,rfl,?_,?_,?_,by simp[Ct],?_⟩
    ·repeat refine FN.set ?_ _ _ (by decide)
     exact he
    ·simp[za,e7]
    ·simp[za,aW]
    ·rw[XU _ _ _ (by omega),Dl,G1 (i:=k+1),hXk];rfl
   | false =>
    refine vZ [6,9,13] [] [(false,false,false,false),(false,false,false,false),(false,false,false,false),(false,false,false,false),(false,false,false,false),(false,false,false,false),(true,false,false,false),(false,false,false,false),(false,false,false,false),(true,false,false,false),(false,false,false,false),(false,false,false,false),(false,false,false,false),(true,false,false,false),(false,false,false,false),(false,true,false,false),(false,false,false,false),(false,false,false,false),(false,true,false,false)] (tk:=[]) (by kernel_rfl) (by kernel_rfl) ?_
    simp only[BA,Nat.reduceEqDiff,za,cI,Nat.reduceLT,aZ,l7,El,XC,C5,Q8,zF,zb,zg,qa,lQ,yh,oh,l8,iP,uP,kA,wo,jU,jy,e1,e2,e3,e7,e8,aW,BW,lz,zS,qI,jt,ww,Ni,DT,sM,Ky,Rk,nJ,dQ,zf5,b8,iH,qf (show k<2 ^ 60 by omega)]
    refine⟨⟨q6 (p:=.vp [.bool false]) (by simp[aq,za,aW,aX]) Ky rfl,trivial⟩,?_⟩
    refine ze ?_;simp only[BA,Nat.reduceEqDiff,za,cI,Nat.reduceLT,aZ,e8,aW,qf (show k<2 ^ 60 by omega),zo,bL]
    refine⟨m - 1,by omega,k+1,_,l.set (k+1) false,by omega,rfl,?_,?_,?_,by simp[Ct],?_⟩
    ·repeat refine FN.set ?_ _ _ (by decide)
     exact he
    ·simp[za,e7]
    ·simp[za,aW]
    ·rw[XU _ _ _ (by omega),Dl,G1 (i:=k+1),hXk];rfl
  ·refine .inr ⟨by simp;omega,?_⟩
   obtain rfl:k=t.length:=by omega
   have acU:l=X:=by
    have h1:l.take (t.length+1)=l:=Af (by omega)
    have h2:X.take (t.length+1)=X:=Af (by omega)
    rw[<- h1,Dl,h2]
   subst acU;simp only[jY,q8,qB,zo,dV,wh,zc,pP,aT,zo];exact Bf _ (.sr 1 0 (t.length+1) (t.length+1)) _ (by simp[aW]) (by simp[za,e7]) (.inr ⟨1,by rw[Ct],rfl⟩)
 refine .inr ⟨h2,?_⟩;refine ze ?_;simp only[BA,Nat.reduceEqDiff,za,cI,Nat.reduceLT,aZ,HC,aW,qE];simp only[beq_iff_eq,beq_eq_false_iff_ne]
 by_cases h5:op=5
 ·refine .inl ⟨h5,?_⟩;subst h5;have hX:rC args t fr=X:=by rw[<- Rq];simp[rE]
  refine ze ?_;simp only[BA,Nat.reduceEqDiff,za,cI,Nat.reduceLT,aZ,e2,aW,qI];refine ze ?_;simp only[BA]
  refine km (λm s=>∃k env l,m+k=args.length/\s=⟨env,⟨[aN.cells (aE (.mk 5 pl s0 s1 s2 s3 text mn mx nl' args)) 27,.cells (eY (List.replicate (t.length+1) false)) 4],[]⟩,[],[]⟩/\FN (.mk 5 pl s0 s1 s2 s3 text mn mx nl' args) nl t fr env/\nth env 7=some (dn l)/\nth env 9=some (.int .i64 (k:Nat))/\l.length=t.length+1/\rC (args.drop k) t l=X) args.length (by have:=hc.2.2.1;omega) ⟨0,_,fr,rfl,rfl,?_,?_,?_,ey,hX⟩ ?_
  ·repeat refine FN.set ?_ _ _ (by decide)
   exact he
  ·simp[za,aW];rfl
  ·simp[za,aW]
  clear he e1 e2 e3 e7 HC aW env;rintro m s ⟨k,env,l,Ck,rfl,he,e7,e9,Ct,Dl⟩;have aW:=he.len;have e1:=he.e1;have e3:=he.e3;have nD:=nD [.cells (eY (List.replicate (t.length+1) false)) 4];simp only[iQ,gF] at nD;simp only[zc];refine ze ?_;simp only[BA,Nat.reduceEqDiff,za,cI,Nat.reduceLT,aZ,e3,e9,aW,pq,nD,qg,znX,jr]
  by_cases hk:k<args.length
  ·refine .inl ⟨by simp;omega,?_⟩
   obtain⟨a,ha⟩:∃a,args[k]?=some a:=⟨args[k],by simp[hk]⟩
   have Ew:=oH ha;have fD:args.drop k=a::args.drop (k+1):=by
    rw[J6 hk];rw[lB hk] at ha;rw[tU ha]
   rw[fD] at Dl;simp only[rC] at Dl;have sM:=Xv (nl:=nl') ha;have dQ:=cH (gl:=gl) (n:=n) (by omega) func54 rfl (hg.Dk a l (by simp only[nodes];have:=XX Ew;omega) (oq.mem hc.2.2.2 Ew) (AJ.mem hr.2 Ew) (hw.2.2.mem Ew) (sN.mem UU.2 Ew) Ct)
   try simp only[bC,zc,zU]
   refine ze ?_;simp only[BA,Nat.reduceEqDiff,za,cI,Nat.reduceLT,aZ,e1,e3,e7,e9,aW,pq,nD,qg,zS,qI,gW,sM,Xw,Pb,dQ,ziU];refine ze ?_;simp only[BA,Nat.reduceEqDiff,za,cI,Nat.reduceLT,aZ,e9,aW,qf (show k<2 ^ 60 by have:=hc.2.2.1;omega),zo,bL]
   refine⟨m - 1,by omega,k+1,_,rE a t l,by omega,rfl,?_,?_,?_,gy a t l Ct,Dl⟩
   ·repeat refine FN.set ?_ _ _ (by decide)
    exact he
   ·simp[za,aW]
   ·simp[za,aW]
  ·refine .inr ⟨by simp;omega,?_⟩
   obtain rfl:k=args.length:=by omega
   rw[List.drop_length] at Dl;simp only[rC] at Dl;subst Dl;simp only[jY,q8,qB,zo,dV,wh,zc,pP,aT,zo];exact Bf _ _ _ (by simp[aW]) (by simp[za,e7]) (.inl rfl)
 refine .inr ⟨h5,?_⟩;refine ze ?_;simp only[BA,Nat.reduceEqDiff,za,cI,Nat.reduceLT,aZ,HC,aW,qE];simp only[beq_iff_eq,beq_eq_false_iff_ne]
 by_cases h6:op=6
 ·refine .inl ⟨h6,?_⟩;subst h6;have hX:rU args t fr (List.replicate (t.length+1) false)=X:=by rw[<- Rq];simp[rE,ey]
  refine ze ?_;simp only[BA]
  refine km (λm s=>∃k env l ls j,m+k=args.length/\s=⟨env,⟨aN.cells (aE (.mk 6 pl s0 s1 s2 s3 text mn mx nl' args)) 27::ls,[]⟩,[],[]⟩/\FN (.mk 6 pl s0 s1 s2 s3 text mn mx nl' args) nl t fr env/\nth env 7=some (.sr j 0 l.length l.length)/\nth (aN.cells (aE (.mk 6 pl s0 s1 s2 s3 text mn mx nl' args)) 27::ls) j=some (.cells (eY l) 4)/\nth env 10=some (.int .i64 (k:Nat))/\l.length=t.length+1/\rU (args.drop k) t fr l=X) args.length (by have:=hc.2.2.1;omega) ⟨0,_,List.replicate (t.length+1) false,_,1,rfl,rfl,?_,?_,rfl,?_,by simp,hX⟩ ?_
  ·repeat refine FN.set ?_ _ _ (by decide)
   exact he
  ·simp[za,e7]
  ·simp[za,aW]
  clear he e1 e2 e3 e7 HC aW env;rintro m s ⟨k,env,l,ls,j,Ck,rfl,he,e7,hj,Gz,Ct,Dl⟩;have aW:=he.len;have e1:=he.e1;have e2:=he.e2;have e3:=he.e3;have nD:=nD ls;simp only[iQ,gF] at nD;simp only[zc];refine ze ?_;simp only[BA,Nat.reduceEqDiff,za,cI,Nat.reduceLT,aZ,e3,Gz,aW,pq,nD,qg,znX,jr]
  by_cases hk:k<args.length
  ·refine .inl ⟨by simp;omega,?_⟩
   obtain⟨a,ha⟩:∃a,args[k]?=some a:=⟨args[k],by simp[hk]⟩
   have Ew:=oH ha;have fD:args.drop k=a::args.drop (k+1):=by
    rw[J6 hk];rw[lB hk] at ha;rw[tU ha]
   rw[fD] at Dl;simp only[rU] at Dl;have sM:=Xv (nl:=nl') ha;have DV:=gy a t fr ey;have dQ:=cH (gl:=gl) (n:=n) (by omega) func54 rfl (hg.Dk a fr (by simp only[nodes];have:=XX Ew;omega) (oq.mem hc.2.2.2 Ew) (AJ.mem hr.2 Ew) (hw.2.2.mem Ew) (sN.mem UU.2 Ew) ey)
   obtain⟨n',rfl⟩:∃n',n=n'+1:=⟨n - 1,by omega⟩
   have h82:=zrp (gl:=gl) (λ_ _ _=>hg.UT _) (n:=n') (j:=j) (a:=l) (b:=rE a t fr) hj (by intro e;rw[e] at Ct;simp at Ct) (by omega) (by omega) (by omega)
   have Nl:Cx.cX ⟨prog,gl.g,zl prog gl (n'+1),gl.uq⟩ 82 _ _=_:=zR func82 rfl h82;simp only[iQ,fY] at Nl
   try simp only[bC,zc,zU]
   refine ze ?_;simp only[BA,Nat.reduceEqDiff,za,cI,Nat.reduceLT,aZ,e1,e2,e3,e7,Gz,aW,pq,nD,qg,zS,qI,jt,gW,sM,Xw,Pb,dQ,Nl,v5];refine ze ?_;simp only[BA,Nat.reduceEqDiff,za,cI,Nat.reduceLT,aZ,Gz,aW,qf (show k<2 ^ 60 by have:=hc.2.2.1;omega),zo,bL]
   have NT:(gE l (rE a t fr)).length=l.length:=kY (by omega)
   refine⟨m - 1,by omega,k+1,_,gE l (rE a t fr),ls++[.cells (eY (gE l (rE a t fr))) 4],ls.length+1,by omega,rfl,?_,?_,?_,?_,by omega,Dl⟩
   ·repeat refine FN.set ?_ _ _ (by decide)
    exact he
   ·simp[za,aW,NT]
   ·rw[zf];simp
   ·simp[za,aW]
  ·refine .inr ⟨by simp;omega,?_⟩
   obtain rfl:k=args.length:=by omega
   rw[List.drop_length] at Dl;simp only[rU] at Dl;subst Dl;simp only[jY,q8,qB,zo,dV,wh,zc,pP,aT,zo];exact Bf _ _ _ (by simp[aW]) (by simp[za,e7]) (.inr ⟨j,rfl,hj⟩)
 refine .inr ⟨h6,?_⟩;refine ze ?_;simp only[BA,Nat.reduceEqDiff,za,cI,Nat.reduceLT,aZ,HC,aW,qE];simp only[beq_iff_eq,beq_eq_false_iff_ne]
 by_cases h7:op=7
 ·refine .inl ⟨h7,?_⟩;have hle:=hle [.cells (eY (List.replicate (t.length+1) false)) 4];simp only[iQ,gF] at hle;have L3:=hg.L3 h7 fr ey;rw[Rq,zV] at L3;have dQ:=cH (gl:=gl) (n:=n) (by omega) func83 rfl L3
  refine ze ?_;simp only[BA,Nat.reduceEqDiff,za,cI,Nat.reduceLT,aZ,e1,e2,e3,aW,hle,zS,qI,dQ,ziU];simp only[go_ret,zo,je,ky,Fx]
  refine⟨trivial,[dn X],?_,_,rfl,.inl rfl⟩;simp[zG,za,aW]
 refine .inr ⟨h7,?_⟩;have hX:X=List.replicate (t.length+1) false:=by rw[<- Rq];simp[rE,h1,h2,h5,h6,h7,ey]
 refine Bf _ (.sr 1 0 (t.length+1) (t.length+1)) _ (by simp[aW]) (by simp[za,e7]) (.inr ⟨1,by rw[hXl],by rw[hX];rfl⟩)
end
section
open Go Go.Vm Go.Vm.Sx
def kh(f:List Bool->List Bool):Nat->List Bool->List Bool
 | 0,l=>l
 | n+1,l=>kh f n (gE l (f l))
def XY(f:List Bool->List Bool):∀(n:Nat)(l:List Bool),kh f (n+1) l=gE (kh f n l) (f (kh f n l))
 | 0,l=>rfl
 | n+1,l=>by
  show kh f (n+1) (gE l (f l))=_;rw[XY f n];rfl
def zdj{f:List Bool->List Bool}{m:Nat}(hf:∀l,l.length=m->(f l).length=m):∀(n:Nat)(l:List Bool),l.length=m->(kh f n l).length=m
 | 0,l,h=>h
 | n+1,l,h=>zdj hf n _ (by rw[kY (by rw[h,hf l h])];exact h)
def JU:∀(a b:List Bool),a.length=b.length->(gE a b).count false<=a.count false/\(gE a b≠a->(gE a b).count false<a.count false)
 | [],[],_=>⟨bV _,λh=>absurd rfl h⟩
 | x::a,y::b,h=>by
  obtain⟨h1,h2⟩:=JU a b (by simpa using h)
  simp only[gE,List.zipWith_cons_cons,List.count_cons] at h1 h2 ⊢;cases x with
  | true=>exact⟨by simpa using h1,λhn=>by simpa using h2 (λe=>hn (by simp[e]))⟩
  | false =>
   cases y with
   | false=>exact⟨by simpa using h1,λhn=>by simpa using h2 (λe=>hn (by simp[e]))⟩
   | true=>simp;omega
def zdk{f:List Bool->List Bool}{w:Nat}(hf:∀l,l.length=w->(f l).length=w):∀(k:Nat)(l:List Bool),l.length=w->l.count false<k ->
  ∃m,m<k/\(∀i,i<m->gE (kh f i l) (f (kh f i l))≠kh f i l)/\gE (kh f m l) (f (kh f m l))=kh f m l/\y9 f k l=kh f m l
 | 0,l,_,h=>by omega
 | k+1,l,hl,h=>by
  by_cases he:gE l (f l)=l
  ·exact⟨0,by omega,λi hi=>by omega,he,by simp only[y9,if_pos he,kh]⟩
  ·have bu:=(JU l (f l) (by rw[hl,hf l hl])).2 he
   obtain⟨m,m1,m2,m3,m4⟩:=zdk hf k (gE l (f l)) (by rw[kY (by rw[hl,hf l hl])];exact hl) (by omega)
   refine⟨m+1,by omega,λi hi=>?_,m3,by simp only[y9,if_neg he];exact m4⟩
   cases i with
   | zero=>exact he
   | succ i=>exact m2 i (by omega)
def zme{a b:List Bool}{i:Nat}{x y:Bool}(ha:a[i]?=some x)(hb:b[i]?=some y)(AT:a.length=b.length):decide (a.take (i+1)=b.take (i+1))=(decide (a.take i=b.take i) && (x == y)):=by
 rw[G1,G1,ha,hb];have:(a.take i).length=(b.take i).length:=by simp[AT]
 by_cases h:a.take i=b.take i
 ·cases x<;>cases y<;>simp[h]
 ·have cg:¬(a.take i++(some x).toList=b.take i++(some y).toList):=λe=>h (List.append_inj e this).1;rw[decide_eq_false cg,decide_eq_false h];rfl
variable{gl:Gl}[ir gl]
def zcN{x y z:V}:we prog [27,34,106] [.d x,.d y,.d z] 0:=by
 refine⟨λe=>?_,λe=>?_,λe=>?_,trivial⟩
 ·rw[underlying27];simp
 ·rw[underlying34];simp
 ·rw[underlying106];simp
def ztB(bX:∀g off v,gl g off=some v->v.top=0){e:E}{nl:Bool}{t:aR}{fr:List Bool}(h7:Nk e=7)(hc:AH e)(lC:∀args,gl.hk 83 args=none)(ey:fr.length=t.length+1)(nu:t.length<=65536)
  (Dk:∀a fr,nodes a<nodes e->fr.length=t.length+1->(∃l,a∈l/\Nj e=l)->Ev prog gl 54 [.d (enc a),.d (zI nl t),.d (dn fr)] [] (dn (rE a t fr)) [])
  (h82:∀a b:List Bool,a.length=t.length+1->b.length=t.length+1->Ev prog gl 82 [.d (dn a),.d (dn b)] [] (dn (gE a b)) []) :
  Ev prog gl 83 [.d (enc e),.d (zI nl t),.d (dn fr)] [] (dn (rE e t fr)) []:=by
 obtain⟨op,pl,s0,s1,s2,s3,text,mn,mx,nl',args⟩:=e;have az:op=7:=h7;subst az;obtain⟨⟨a,rfl⟩,_⟩:=Rn hc.2.1;refine qv (xs:=[enc (.mk 7 pl s0 s1 s2 s3 text mn mx nl' [a]),zI nl t,dn fr]) bX (lC) GP func83 (by kernel_rfl) zcN (by simp[aA,cL,kB,vA]) (N:=t.length+3) ?_
 have hA:∀l:List Bool,l.length=t.length+1->(rE a t l).length=t.length+1:=λl hl=>gy a t l hl;have JV:∀l:List Bool,l.length=t.length+1->rV prog gl 54 [.d (enc a),.d (zI nl t),.d (dn l)] []=some (dn (rE a t l),[]):=λl hl=>qM (Dk a l (by simp only[nodes,c8];omega) hl ⟨[a],by simp,rfl⟩)
 have PE:∀x y:List Bool,x.length=t.length+1->y.length=t.length+1->rV prog gl 82 [.d (dn x),.d (dn y)] []=some (dn (gE x y),[]):=λx y hx hy=>qM (h82 x y hx hy);have hX:rE (.mk 7 pl s0 s1 s2 s3 text mn mx nl' [a]) t fr=if mn=0 then gE (if mx = -1 then y9 (rE a t) (fr.length+1) (rE a t fr) else rE a t fr) fr else if mx = -1 then y9 (rE a t) (fr.length+1) (rE a t fr) else rE a t fr:=by
  simp[rE,rH]
 rw[hX];have AP:=hA fr ey;generalize rE a t=A at hA JV AP ⊢;have hn:nth (bl [a]) 0=some (enc a):=rfl;have PF:gh 0 0=false:=rfl;have zm1:((-1:Int) == -1)=true:=rfl;obtain⟨An,DB,DC,DD,DE,DF,lR,DG,DH,L4,dU⟩:=a;simp only[enc] at JV hn;have d54:=JV fr ey;simp only[gH,hO,Nat.reduceAdd,JG,enc]
 by_cases KS:mx = -1
 ·rw[if_pos KS];subst KS;obtain⟨m,m1,m2,m3,m4⟩:=zdk (w:=t.length+1) hA (fr.length+1) (A fr) AP (by have:=List.count_le_length (a:=false) (l:=A fr);omega)
  rw[m4];simp only[SA,jg,zX,hn,PF,d54,wJ,Cu,zS,qI,Mf];have pN:∀i,(kh A i (A fr)).length=t.length+1:=λi=>zdj hA i _ AP;have inner:∀(one:List Bool),one.length=t.length+1->True:=λ_ _=>trivial;refine wg (st:=λi=>[dn (kh A i (A fr))]) (m:=m) (λi hi=>?_) ?_ (by omega)
  ·have cg:=m2 i hi;have lH:=pN i;rw[XY];generalize kh A i (A fr)=one at cg lH ⊢;have e54:=JV one lH;have Aj:=hA one lH;have UW:=PE one (A one) lH Aj;have sB:(gE one (A one)).length=t.length+1:=by rw[kY (by omega)];exact lH
   generalize gE one (A one)=more at cg UW sB ⊢;simp only[gH,hO,Nat.reduceAdd,BZ];simp only[SA,jg,zX,hn,PF,zm1,e54,UW,Cu,zS,qI,Mf];refine wg (st:=λj=>[.bool (decide (more.take j=one.take j)),.int .i64 (j:Int)]) (m:=t.length+1) (N:=t.length+3) (λj hj=>?_) ?_ (by omega)
   ·obtain⟨x,hx⟩:∃x,more[j]?=some x:=⟨more[j]'(by omega),by simp[show j<more.length by omega]⟩
    obtain⟨y,hy⟩:∃y,one[j]?=some y:=⟨one[j]'(by omega),by simp[show j<one.length by omega]⟩
    have i1:gh (j:Int) (one.length:Int)=true:=yf (by omega)
    have i2:=Pz hx;have i3:=Pz hy;have i4:=Ek (i:=j) (by omega)
    have i5:=zme hx hy (by omega)
    simp only[uY];rw[i5];cases hd:decide (more.take j=one.take j) with
    | true=>simp only[SA,xN,L2,i1,i2,i3,i4,rM]
    | false=>simp only[SA,xN,L2,i1,i4]
   ·have i1:gh ((t.length+1:Nat):Int) (one.length:Int)=false:=yZ (by omega)
    have h1:more.take (t.length+1)=more:=Af (by omega)
    have h2:one.take (t.length+1)=one:=Af (by omega)
    have hd:decide (more=one)=false:=decide_eq_false cg;simp only[uY];rw[h1,h2,hd];simp only[SA,xN,L2,i1,qI]
  ·have lH:=pN m;generalize kh A m (A fr)=one at m3 lH ⊢;have e54:=JV one lH;have Aj:=hA one lH;have UW:=PE one (A one) lH Aj;rw[m3] at UW;have f82:=PE one fr lH ey;simp only[gH,hO,Nat.reduceAdd,BZ];simp only[SA,jg,zX,hn,PF,zm1,e54,UW,Cu,zS,qI,Mf];refine wg (st:=λj=>[.bool true,.int .i64 (j:Int)]) (m:=t.length+1) (N:=t.length+3) (λj hj=>?_) ?_ (by omega)
   ·obtain⟨y,hy⟩:∃y,one[j]?=some y:=⟨one[j]'(by omega),by simp[show j<one.length by omega]⟩
    have i1:gh (j:Int) (one.length:Int)=true:=yf (by omega)
    have i3:=Pz hy;have i4:=Ek (i:=j) (by omega)
    simp only[uY];simp only[SA,xN,L2,i1,i3,i4,rM,beq_self_eq_true]
   ·have i1:gh ((t.length+1:Nat):Int) (one.length:Int)=false:=yZ (by omega)
    simp only[uY]
    by_cases hm:mn=0
    ·subst hm;simp only[SA,xN,L2,i1,qI,f82,Cu,aT,beq_self_eq_true]
    ·have Lo:(mn == 0)=false:=by simpa using hm
     simp only[SA,xN,L2,i1,qI,Lo,hm,aZ]
 ·rw[if_neg KS];have KU:(mx == -1)=false:=by simpa using KS
  have f82:=PE (A fr) fr AP ey;simp only[SA,jg,zX,hn,PF,d54,wJ,Cu,zS,qI,Mf];refine wg (st:=λ_=>[dn (A fr)]) (m:=0) (λi hi=>by omega) ?_ (by omega)
  simp only[gH,hO,Nat.reduceAdd,BZ]
  by_cases hm:mn=0
  ·subst hm;simp only[SA,KU,f82,Cu,qI,aT,beq_self_eq_true]
  ·have Lo:(mn == 0)=false:=by simpa using hm
   simp only[SA,KU,qI,Lo,hm,aZ]
end
section
open Go Go.Vm Go.Vm.Sx
def gz(f:FuncId)(args:aj)(v:V):Prop:=∀(d:Nat)(H:Hp)(g:Gh)(w:aB)(aM:cO)(l:Vm.Loc),gv prog AD g->m8 g H.af w->dG g H.af.length args aM->Calls prog f aM w (dP d H g w l (.ret v) H)
structure Nn where
 e:E
 nl:Bool
 t:aR
 fr:List Bool
def Cv(p:Nn):Prop:=oY p.e/\AH p.e/\Rg p.e/\p.fr.length=p.t.length+1/\p.t.length<=65536/\∀b∈p.t,b<256
def yO(p:Nn):aj:=[enc p.e,zI p.nl p.t,dn p.fr]
def Dm(p:Nn):V:=dn (rE p.e p.t p.fr)
def Rr(p:List Bool×List Bool):Prop:=p.1≠[]/\p.1.length=p.2.length/\p.1.length<=65537
def No(p:List Bool×List Bool):aj:=[dn p.1,dn p.2]
def Np(p:fS×Nat):aj:=[bI p.1,.int .i64 (p.2:Nat)]
def zjQ{l l':List Bool}(h:dn l=dn l'):l=l':=by
 have:=congrArg vL h;rw[xN,xN] at this;clear h
 induction l generalizing l' with
 | nil=>cases l' with
  | nil=>rfl
  | cons a l'=>simp[eY] at this
 | cons a l ih=>cases l' with
  | nil=>simp[eY] at this
  | cons b l' =>
   simp only[eY,iC,rZ,V.bool.injEq] at this ih;rw[this.1,ih this.2]
def zoe{p q:Nn}(hp:Cv p)(hq:Cv q)(h:yO p=yO q):p.e=q.e/\p.t=q.t/\p.fr=q.fr:=by
 simp only[yO,rZ,r8] at h;exact⟨l_ _ _ hp.1.2 hq.1.2 h.1,UJ h.2.1,zjQ h.2.2⟩
def i54{R:Nn->Prop}:∀a b,(Cv a/\R a)->(Cv b/\R b)->yO a=yO b->Dm a=Dm b:=λa b ha hb h=>by
 obtain⟨h1,h2,h3⟩:=zoe ha.1 hb.1 h;simp only[Dm,h1,h2,h3]
def i82:∀a b,Rr a->Rr b->No a=No b->dn (gE a.1 a.2)=dn (gE b.1 b.2):=λa b _ _ h=>by
 simp only[No,rZ,r8] at h;rw[zjQ h.1,zjQ h.2]
def i81:∀a b,PA a->PA b->Np a=Np b->V.bool (qN a.1 a.2)=V.bool (qN b.1 b.2):=λa b _ _ h=>by
 simp only[Np,rZ,V.int.injEq,fK,r8] at h;have h1:=XQ h.1;have h2:a.2=b.2:=by omega
 rw[h1,h2]
noncomputable def Nq(N M:Nat)(b:Bool):Gl:={ g:=AD,hk:=λf args=>if Nat.beq f 54 then rW yO (λp=>Cv p/\nodes p.e<N) Dm args else if Nat.beq f 83 then rW yO (λp=>Cv p/\nodes p.e<M/\Nk p.e=7) Dm args else if Nat.beq f 82 then (if b then rW No Rr (λp=>dn (gE p.1 p.2)) args else none) else if Nat.beq f 81 then rW Np PA (λp=>.bool (qN p.1 p.2)) args else none }
instance{N M:Nat}{b:Bool}:ir (Nq N M b):=⟨λ_=>rfl,λ_ _ _ _=>rfl⟩
def UX(N:Nat):Prop:=∀p,Cv p->nodes p.e<N->gz 54 (yO p) (Dm p)
def XZ(M:Nat):Prop:=∀p,Cv p->nodes p.e<M->Nk p.e=7->gz 83 (yO p) (Dm p)
def p81(p:fS×Nat)(h:PA p):gz 81 (Np p) (.bool (qN p.1 p.2)):=λd H g w aM lc h1 h2 h3=>by
 obtain⟨k,hk⟩:=Sx.Ev.run (xs:=Np p) (zri Kx p.1 h.1 p.2 h.2) ⟨[],[]⟩;exact vD mixed gT ff EP (hk k (bV _)) (by simp[aA,zhh,V.top,Np]) rfl h1 h2 h3
def p82(p:List Bool×List Bool)(h:Rr p):gz 82 (No p) (dn (gE p.1 p.2)):=λd H g w aM lc h1 h2 h3=>by
 have hc:=zsr (gl:=UI) (λ_=>rfl) (n:=p.1.length+1) h.1 h.2.1 h.2.2 (by omega)
 have hl:=kY h.2.1;have hf:mL ⟨[.cells (eY (gE p.1 p.2)) 4],[]⟩ (.sr 0 0 p.1.length p.1.length) (dn (gE p.1 p.2)):=by
  have:=mL.sr (H:=⟨[.cells (eY (gE p.1 p.2)) 4],[]⟩) (b:=0) (off:=0) (len:=p.1.length) (cap:=p.1.length) (cs:=eY (gE p.1 p.2)) (t:=4) rfl (oG _) (by simp[eY,hl])
  rw[E0,Af (by simp[eY,hl])] at this
  exact this
 exact ZM mixed gT ff EP hc (by simp[aA,vA]) hf (λ_ _ _ e=>by simp[dn,lv] at e) h1 h2 h3
def hkQ{N M:Nat}{b:Bool}(Dk:UX N)(L3:XZ M):nW prog (Nq N M b):=by
 refine⟨λf args v h d H g w aM lc h1 h2 h3=>?_,λn f args H out H' h=>(by cases h),λ_ _ _ _ h=>(by cases h)⟩
 simp only[Nq] at h;split at h
 next hf=>obtain rfl:f=54:=eT hf;obtain⟨p,hq,rfl,rfl⟩:=vg h;exact Dk p hq.1 hq.2 d H g w aM lc h1 h2 h3
 split at h
 next hf=>obtain rfl:f=83:=eT hf;obtain⟨p,hq,rfl,rfl⟩:=vg h;exact L3 p hq.1 hq.2.1 hq.2.2 d H g w aM lc h1 h2 h3
 split at h
 ·rename_i hf;obtain rfl:f=82:=eT hf;split at h
  ·obtain⟨p,hq,rfl,rfl⟩:=vg h;exact p82 p hq d H g w aM lc h1 h2 h3
  ·cases h
 split at h
 next hf=>obtain rfl:f=81:=eT hf;obtain⟨p,hq,rfl,rfl⟩:=vg h;exact p81 p hq d H g w aM lc h1 h2 h3
 ·cases h
def zk5{e a:E}{l:List E}(hl:Nj e=l)(ha:a∈l)(hg:oY e)(hc:AH e)(hr:Rg e):oY a/\AH a/\Rg a/\nodes a<nodes e:=by
 obtain⟨op,pl,s0,s1,s2,s3,text,mn,mx,nl,args⟩:=e;have hl:args=l:=hl;subst hl;exact⟨⟨hg.1.2.2.mem ha,sN.mem hg.2.2 ha⟩,oq.mem hc.2.2.2 ha,AJ.mem hr.2 ha,by simp only[nodes];have:=XX ha;omega⟩
def zk6(p:Nn):aA (yO p)=0:=by simp[yO,aA,cL,kB,vA]
def zof{N:Nat}(Dk:UX N):XZ (N+1):=λp hp hn h7 d H g w aM lc h1 h2 h3=>by
 obtain⟨e,nl,t,fr⟩:=p;obtain⟨hg,hc,hr,ey,nu,ht⟩:=hp
 dsimp only at hg hc hr ey nu ht hn h7
 have QT:=ztB (gl:=Nq N 0 true) B9 (nl:=nl) (t:=t) (fr:=fr) h7 hc (λargs=>by
   simp only[Nq];split
   next h=>cases h
   ·unfold rW;rw[if_pos (by rfl)]
    rw[dif_neg];rintro⟨q,hq,_⟩
    omega) ey nu
  (λa Fg ha JW hm=>by
   obtain⟨l,lH,Aj⟩:=hm;obtain⟨k1,k2,k3,k4⟩:=zk5 Aj lH hg hc hr
   exact Sx.Ev.Gc (xs:=[enc a,zI nl t,dn Fg]) (show(Nq N 0 true).hk 54 _=_ from j9 (en:=yO) (F:=Dm) (a:=⟨a,nl,t,Fg⟩) i54 ⟨⟨k1,k2,k3,JW,nu,ht⟩,by dsimp only;omega⟩) (vA _))
  (λa b ha hb=>Sx.Ev.Gc (xs:=[dn a,dn b]) (show(Nq N 0 true).hk 82 _=_ from j9 (en:=No) (F:=λp=>dn (gE p.1 p.2)) (a:=(a,b)) i82 ⟨by intro e;rw[show a=[] from e] at ha;simp at ha,by dsimp only;omega,by dsimp only;omega⟩) (vA _))
 obtain⟨k,hk⟩:=Sx.Ev.run (xs:=[enc e,zI nl t,dn fr]) QT ⟨[],[]⟩;exact vD mixed gT ff (hkQ Dk (λ_ _ h=>by omega)) (hk k (bV _)) (zk6 ⟨e,nl,t,fr⟩) (vA _) h1 h2 h3
def zrr{N:Nat}(Dk:UX N)(L3:XZ (N+1)):UX (N+1):=λp hp hn d H g w aM lc h1 h2 h3=>by
 by_cases hN:nodes p.e<N
 ·exact Dk p hp hN d H g w aM lc h1 h2 h3
 obtain⟨e,nl,t,fr⟩:=p;have hp0:=hp;obtain⟨hg,hc,hr,ey,nu,ht⟩:=hp
 dsimp only at hg hc hr ey nu ht hn hN
 have hGV:GV (Nq N (N+1) false) e nl t :=
  {US:=λFg=>by
    show rW yO (λp=>Cv p/\nodes p.e<N) Dm [enc e,zI nl t,dn Fg]=none;unfold rW;rw[dif_neg];rintro⟨q,hq,hqe⟩;simp only[yO,rZ,r8] at hqe;have:=l_ _ _ hg.2 hq.1.1.2 hqe.1;rw[<- this] at hq;exact hN hq.2
   UT:=λargs=>rfl
   h81:=λs b hs hb=>j9 (en:=Np) (a:=(s,b)) i81 ⟨hs,hb⟩
   Dk:=λa Fg ha k2 k3 kw kc JW=>j9 (en:=yO) (F:=Dm) (a:=⟨a,nl,t,Fg⟩) i54 ⟨⟨⟨kw,kc⟩,k2,k3,JW,nu,ht⟩,by dsimp only;omega⟩
   L3:=λh7 Fg JW=>j9 (en:=yO) (F:=Dm) (a:=⟨e,nl,t,Fg⟩) i54 ⟨⟨hg,hc,hr,JW,nu,ht⟩,hn,h7⟩ }
 obtain⟨u,H',ez,hf⟩:=zsu hGV hc hr hg.1 hg.2 ey nu ht (n:=70000) (by decide)
 exact ZM mixed gT ff (hkQ Dk L3) ez (zk6 ⟨e,nl,t,fr⟩) hf (λ_ _ _ e=>by simp[dn,lv] at e) h1 h2 h3
def JX:∀N,UX N/\XZ (N+1)
 | 0=>⟨λ_ _ h=>by omega,zof λ_ _ h=>by omega⟩
 | N+1=>by
  obtain⟨a,b⟩:=JX N;have c:=zrr a b;exact⟨c,zof c⟩
def p54(p:Nn)(h:Cv p):gz 54 (yO p) (Dm p):=(JX (nodes p.e+1)).1 p h (by omega)
def p83(p:Nn)(h:Cv p)(h7:Nk p.e=7):gz 83 (yO p) (Dm p):=(JX (nodes p.e)).2 p h (by omega) h7
end
section
open Go Go.Vm Go.Vm.Sx
end
section
open Go Go.Vm Go.Vm.Sx
end
section
open Go Go.Vm Go.Vm.Sx
structure Ln where
 no:Bool
 le:Int
 mo:Int
variable{gl:Gl}[ir gl]
end
section
open Go Go.Vm Go.Vm.Sx
end
section
open Go Go.Vm Go.RowKit Go.Maps Go.Sort Go.Shelf
attribute [local go_sem] Oper.semAt_some
noncomputable def apc:Code:=c1 (c2 (c1 (c2 (f100.body.getD .skip))))
noncomputable def JY:Code:=c1 apc
noncomputable def PG:Code:=c2 apc
noncomputable def zsv(fn:FuncId)(sv:aP)(Bs D:Nat)(st:LoopState)(bh:Option Code):Loop :=
 {state:=st,pending:=bh,fn,tmps:=#[.slice none 0 0,sv,.pointer (some ⟨Bs,0,none⟩),undef,.slice none 0 0,undef,sv,undef,undef,undef,undef,undef,undef],params:=#[7],assign:=JY,body:=PG,defers:=D }
structure arX(w0:aB)(fn:FuncId)(sv:aP)(Bs l D:Nat)(ss:List Int)(W:aB):Prop where
 box:∃v,W.heap[Bs]?=some (.cells #[v] 36 (0,0))/\W.ownsRow w0.heap.size 3 1 v ss.length (ss.map (Value.int .i64))/\(v=.slice none 0 0 ↔ ss=[])
 L:W.heap[l]?=some (.loop (zsv fn sv Bs D .ready none))
 K:W.heap[D]?=some (.deferred (some []))
 below:Below w0.heap.size w0 W
end
section
open Go Go.Shelf
end
section
open Go Go.Vm Go.RowKit Go.Maps Go.Sort Go.Shelf
attribute [local go_sem] Oper.semAt_some
end
section
open Go Go.Vm
variable{d:Nat}{H H':Hp}{g:Gh}{w w':aB}{l:Vm.Loc}
end
section
open Go Go.Vm Go.Vm.Sx
structure Co where
 hd:E
 ht:Bool
 tl:E
variable{gl:Gl}[ir gl]
def Dy(n:Int)(c:Co):Int:=IntKind.i64.wrap (IntKind.i64.wrap (n+fQ c.hd 0)+fQ c.tl 0)
end
section
open Go Go.Vm
end
section
open Go Go.Vm
end
section
open Go Go.Vm Go.Vm.Sx
def rK:List (Nat×(aj->bS))->Nat->aj->bS
 | [],_,_=>none
 | (k,g)::l,f,args=>if Nat.beq f k then g args else rK l f args
def X0{Q:Nat->aj->V->Prop}:∀(l:List (Nat×(aj->bS))),(∀p∈l,∀args v,p.2 args=some v->Q p.1 args v)->∀{f:Nat}{args:aj}{v:V},rK l f args=some v->Q f args v
 | [],_,f,args,v,h=>by cases h
 | (k,g)::l,hl,f,args,v,h=>by
  simp only[rK] at h;split at h
  next hf=>obtain rfl:f=k:=eT hf;exact hl _ (ew ..) _ _ h
  ·exact X0 l (λp hp=>hl p (cZ _ hp)) h
def iz:∀(l:List (Nat×(aj->bS))){f:Nat}{args:aj},(l.map Prod.fst).any (Nat.beq f)=false->rK l f args=none
 | [],_,_,_=>rfl
 | (k,g)::l,f,args,h=>by
  simp only[iC,List.any_cons,KD] at h;simp only[rK,h.1,bH,aZ];exact iz l h.2
def T{α:Type}(_:α):Prop:=True
end
section
open Go Go.Vm Go.Vm.Sx
mutual
def rN:E->aR->List Bool->fS
 | .mk op pl s0 s1 s2 s3 text mn mx nl args=>λt fr =>
  if op=2 then (if fr.getD t.length false then (s0,s1,s2,s3) else c_)
  else if op=5 then (if ia args then B_ args t fr c_ else c_)
  else if op=6 then Ca args t fr c_
  else if op=7 then Rs args t (if mx = -1 then gE fr (rE (.mk op pl s0 s1 s2 s3 text mn mx nl args) t fr) else fr)
  else c_
def B_:List E->aR->List Bool->fS->fS
 | []=>λ_ _ s=>s
 | a::l=>λt fr s=>B_ l t (rE a t fr) (wL s (rN a t fr))
def Ca:List E->aR->List Bool->fS->fS
 | []=>λ_ _ s=>s
 | a::l=>λt fr s=>Ca l t fr (wL s (rN a t fr))
def Rs:List E->aR->List Bool->fS
 | []=>λ_ _=>c_
 | a::_=>λt fr=>rN a t fr
end
mutual
def Bg:∀(e:E)(t:aR)(fr:List Bool),Rg e->lS (rN e t fr)
 | .mk op pl s0 s1 s2 s3 text mn mx nl args,t,fr,h=>by
  simp only[rN];split
  ·split
   ·exact h.1
   ·exact Gx
  split
  ·split
   ·exact EU args t fr c_ h.2 Gx
   ·exact Gx
  split
  ·exact EV args t fr c_ h.2 Gx
  split
  ·exact PI args t _ h.2
  ·exact Gx
def EU:∀(l:List E)(t:aR)(fr:List Bool)(s:fS),AJ l->lS s->lS (B_ l t fr s)
 | [],t,fr,s,_,h=>by simp only[B_];exact h
 | a::l,t,fr,s,hr,h=>by simp only[B_];exact EU l t _ _ hr.2 (Pe h (Bg a t fr hr.1))
def EV:∀(l:List E)(t:aR)(fr:List Bool)(s:fS),AJ l->lS s->lS (Ca l t fr s)
 | [],t,fr,s,_,h=>by simp only[Ca];exact h
 | a::l,t,fr,s,hr,h=>by simp only[Ca];exact EV l t fr _ hr.2 (Pe h (Bg a t fr hr.1))
def PI:∀(l:List E)(t:aR)(fr:List Bool),AJ l->lS (Rs l t fr)
 | [],t,fr,_=>by simp only[Rs];exact Gx
 | a::l,t,fr,hr=>by simp only[Rs];exact Bg a t fr hr.1
end
def zog(t:aR)(a:E):∀(l:List E)(fr:List Bool),rC (l++[a]) t fr=rE a t (rC l t fr)
 | [],fr=>by simp only[gF,rC]
 | b::l,fr=>by simp only[iQ,rC];exact zog t a l _
def zk7(t:aR)(a:E):∀(l:List E)(fr:List Bool)(s:fS),B_ (l++[a]) t fr s=wL (B_ l t fr s) (rN a t (rC l t fr))
 | [],fr,s=>by simp only[gF,B_,rC]
 | b::l,fr,s=>by simp only[iQ,B_,rC];exact zk7 t a l _ _
def zk8(t:aR)(a:E)(fr:List Bool):∀(l:List E)(s:fS),Ca (l++[a]) t fr s=wL (Ca l t fr s) (rN a t fr)
 | [],s=>by simp only[gF,Ca]
 | b::l,s=>by simp only[iQ,Ca];exact zk8 t a fr l _
def zoh{l:List E}{i:Nat}{a:E}(h:l[i]?=some a):l.take (i+1)=l.take i++[a]:=by rw[G1,h];rfl
def y_:∀{l:List E}(n:Nat),AJ l->AJ (l.take n)
 | [],n,h=>by simp;trivial
 | a::l,0,h=>trivial
 | a::l,n+1,h=>⟨h.1,y_ n h.2⟩
def X2(p:Bool×aR):Prop:=p.2.length<=65536
def UY(p:Bool×aR):aj:=[zI p.1 p.2]
def i55:∀a b,X2 a->X2 b->UY a=UY b->dn (lZ a.2)=dn (lZ b.2):=λa b _ _ h=>by
 rw[UJ (List.cons.inj h).1]
def p55(p:Bool×aR)(h:X2 p):gz 55 (UY p) (dn (lZ p.2)):=λd H g w aM lc h1 h2 h3=>by
 have hc:=zsq (gl:=UI) (λ_=>rfl) (n:=0) (nl:=p.1) (t:=p.2) h;have hl:(lZ p.2).length=p.2.length+1:=by simp[lZ]
 have hf:mL ⟨[.cells (eY (lZ p.2)) 4],[]⟩ (.sr 0 0 (p.2.length+1) (p.2.length+1)) (dn (lZ p.2)):=by
  have:=mL.sr (H:=⟨[.cells (eY (lZ p.2)) 4],[]⟩) (b:=0) (off:=0) (len:=p.2.length+1) (cap:=p.2.length+1) (cs:=eY (lZ p.2)) (t:=4) rfl (oG _) (by simp[eY,hl])
  rw[E0,Af (by simp[eY,hl])] at this
  exact this
 exact ZM mixed gT ff EP hc (by simp[aA,kB]) hf (λ_ _ _ e=>by simp[dn,lv] at e) h1 h2 h3
noncomputable def EW:List (Nat×(aj->bS)):=[(54,rW yO Cv Dm),(83,rW yO (λp=>Cv p/\Nk p.e=7) Dm),(82,rW No Rr (λp=>dn (gE p.1 p.2))),(55,rW UY X2 (λp=>dn (lZ p.2)))]
noncomputable def AL:Gl:={ g:=AD,hk:=rK EW }
instance : ir AL:=⟨λ_=>rfl,λ_ _ _ _=>rfl⟩
def X3{α:Type}{en:α->aj}{Q:α->Prop}{F:α->V}{f:Nat}(h:∀a,Q a->gz f (en a) (F a)):∀args v,rW en Q F args=some v->gz f args v:=λargs v hh=>by
 obtain⟨a,hq,rfl,rfl⟩:=vg hh;exact h a hq
def zsw{l:List (Nat×(aj->bS))}(h:∀p∈l,∀args v,p.2 args=some v->gz p.1 args v):nW prog { g:=AD,hk:=rK l } :=
 ⟨λf args v hh d H g w aM lc h1 h2 h3=>X0 (Q:=gz) l h hh d H g w aM lc h1 h2 h3,λn f args H out H' h=>(by cases h),λ_ _ _ _ h=>(by cases h)⟩
def hkR:nW prog AL:=zsw (by
 unfold EW;refine FT.2 ⟨X3 p54,?_⟩;refine FT.2 ⟨X3 λp h=>p83 p h.1 h.2,?_⟩;refine FT.2 ⟨X3 p82,?_⟩;refine FT.2 ⟨X3 p55,?_⟩
 exact λp hp=>by cases hp)
def GLR:GL AL where
 top:=B9
 no:=λf hf args=>by
  refine iz EW ?_;simp only[EW,iC,Bm,List.any_cons,List.any_nil,Bool.or_false,KD] at hf ⊢;exact⟨hf.2.2.2.2.2.2.2.2.2.2.2.2.2.2.2.2.1,hf.2.2.2.2.2.2.2.2.2.2.2.2.2.2.2.2.2.2.2.2.1,hf.2.2.2.2.2.2.2.2.2.2.2.2.2.2.2.2.2.2.2.1,hf.2.2.2.2.2.2.2.2.2.2.2.2.2.2.2.2.2.1⟩
def r54{e:E}{nl:Bool}{t:aR}{fr:List Bool}(h:Cv ⟨e,nl,t,fr⟩):Ev prog AL 54 [.d (enc e),.d (zI nl t),.d (dn fr)] [] (dn (rE e t fr)) [] :=
 Sx.Ev.Gc (xs:=[enc e,zI nl t,dn fr]) (show AL.hk 54 _=_ from j9 (en:=yO) (F:=Dm) (Q:=Cv) (a:=⟨e,nl,t,fr⟩) (λa b ha hb hh=>i54 (R:=λ_=>True) a b ⟨ha,trivial⟩ ⟨hb,trivial⟩ hh) h) (vA _)
def r83{e:E}{nl:Bool}{t:aR}{fr:List Bool}(h:Cv ⟨e,nl,t,fr⟩)(h7:Nk e=7):Ev prog AL 83 [.d (enc e),.d (zI nl t),.d (dn fr)] [] (dn (rE e t fr)) [] :=
 Sx.Ev.Gc (xs:=[enc e,zI nl t,dn fr]) (show AL.hk 83 _=_ from j9 (en:=yO) (F:=Dm) (Q:=λp=>Cv p/\Nk p.e=7) (a:=⟨e,nl,t,fr⟩) i54 ⟨h,h7⟩) (vA _)
def r82{a b:List Bool}(h:Rr (a,b)):Ev prog AL 82 [.d (dn a),.d (dn b)] [] (dn (gE a b)) [] :=
 Sx.Ev.Gc (xs:=[dn a,dn b]) (show AL.hk 82 _=_ from j9 (en:=No) (F:=λp=>dn (gE p.1 p.2)) (a:=(a,b)) i82 h) (vA _)
def r55{nl:Bool}{t:aR}(h:t.length<=65536):Ev prog AL 55 [.d (zI nl t)] [] (dn (lZ t)) [] :=
 Sx.Ev.Gc (xs:=[zI nl t]) (show AL.hk 55 _=_ from j9 (en:=UY) (F:=λp=>dn (lZ p.2)) (a:=(nl,t)) i55 h) (vA _)
def zsx{nl:Bool}{t:aR}(nu:t.length<=65536)(ht:∀b∈t,b<256):∀(e:E),oY e->AH e->Rg e->∀fr:List Bool,fr.length=t.length+1->Ev prog AL 56 [.d (enc e),.d (zI nl t),.d (dn fr)] [] (bI (rN e t fr)) []
 | .mk op pl s0 s1 s2 s3 text mn mx nl' args,hg,hc,hr,fr,ey=>by
  have cU:=GLR;have DV:=hc.2.2.1;have de:∀i a,args[i]?=some a->(∀fr:List Bool,fr.length=t.length+1->rV prog AL 56 [.d (enc a),.d (zI nl t),.d (dn fr)] []=some (bI (rN a t fr),[]))/\(∀fr:List Bool,fr.length=t.length+1->rV prog AL 54 [.d (enc a),.d (zI nl t),.d (dn fr)] []=some (dn (rE a t fr),[]))/\Rg a:=λi a h=>by
   have ha:=oH h;obtain⟨k1,k2,k3,k4⟩:=zk5 (e:=.mk op pl s0 s1 s2 s3 text mn mx nl' args) rfl ha hg hc hr;exact⟨λfr ey=>qM (zsx nu ht a k1 k2 k3 fr ey),λfr ey=>qM (r54 ⟨k1,k2,k3,ey,nu,ht⟩),k3⟩
  refine qv (xs:=[enc (.mk op pl s0 s1 s2 s3 text mn mx nl' args),zI nl t,dn fr]) cU.top (λargs=>iz EW (by rfl)) GO func56 (by kernel_rfl) zcN (by simp[aA,cL,kB,vA]) (N:=args.length+1) ?_
  simp only[gH,hO,Nat.reduceAdd,JF,enc]
  by_cases h2:op=2
  ·subst h2;have hX:rN (.mk 2 pl s0 s1 s2 s3 text mn mx nl' args) t fr=if fr.getD t.length false then (s0,s1,s2,s3) else c_:=by simp[rN]
   obtain⟨b,hb⟩:∃b,fr[t.length]?=some b:=⟨fr[t.length]'(by omega),by simp[show t.length<fr.length by omega]⟩
   have hgd:fr.getD t.length false=b:=by rw[Ny,hb];rfl
   have i2:=Pz hb;have z2:((2:Int) == 2)=true:=rfl;have z:gh (t.length:Int) 0=false:=yZ (by omega)
   rw[hX,hgd];cases b with
   | true=>simp only[SA,jg,wJ,Cu,kT,xN,oO,i2,z,z2,rM,bI,aT]
   | false=>simp only[SA,jg,wJ,Cu,kT,xN,oO,i2,z,z2,rM,bI,c_,aZ,bH]
  have sW:(op == 2)=false:=by simpa using h2
  by_cases h5:op=5
  ·subst h5;have hX:rN (.mk 5 pl s0 s1 s2 s3 text mn mx nl' args) t fr=if ia args then B_ args t fr c_ else c_:=by simp[rN]
   have Rt:=qM (zso cU (.mk 5 pl s0 s1 s2 s3 text mn mx nl' args) hg.1 hc);have hsm:gC (.mk 5 pl s0 s1 s2 s3 text mn mx nl' args)=ia args:=by simp[gC]
   rw[hsm] at Rt;simp only[enc] at Rt;have z5:((5:Int) == 5)=true:=rfl;rw[hX];cases hs:ia args with
   | false =>
    rw[hs] at Rt;simp only[SA,jg,qg,wJ,Cu,Rt,sW,z5,bI,c_,aZ,bH]
   | true =>
    rw[hs] at Rt;simp only[SA,jg,qg,wJ,Cu,Rt,sW,z5,aT];refine wg (st:=λi=>[dn (rC (args.take i) t fr),.int .i64 (i:Int),.int .u64 (B_ (args.take i) t fr c_).1,.int .u64 (B_ (args.take i) t fr c_).2.1,.int .u64 (B_ (args.take i) t fr c_).2.2.1,.int .u64 (B_ (args.take i) t fr c_).2.2.2]) (m:=args.length) (λi hi=>?_) ?_ (by omega)
    ·obtain⟨a,ha⟩:∃a,args[i]?=some a:=⟨args[i],by simp[hi]⟩
     obtain⟨uc,JV,Hj⟩:=de i a ha;have hl:=ES (args.take i) t fr ey;have uc:=uc _ hl;have JV:=JV _ hl;have TR:=EU (args.take i) t fr c_ (y_ i hr.2) Gx;have HD:=qM (zsh cU _ _ TR (Bg a t (rC (args.take i) t fr) Hj));have h1:=Hv hi;have hn:=kS ha;have h4:=Ek (i:=i) (by omega)
     rw[zoh ha,zog,zk7];generalize rC (args.take i) t fr=cur at uc JV HD hl ⊢;generalize B_ (args.take i) t fr c_=s at HD ⊢;generalize rN a t cur=s' at uc HD ⊢;generalize wL s s'=s'' at HD ⊢;simp only[gH,hO,Nat.reduceAdd,EJ];obtain⟨An,DB,DC,DD,DE,DF,lR,DG,DH,L4,dU⟩:=a;simp only[enc,bI] at uc JV HD hn
     simp only[SA,jg,zX,Cu,zS,qI,aK,h1,hn,h4,uc,JV,HD,rM]
    ·have h1:=Hw (bV args.length);rw[G2];simp only[gH,hO,Nat.reduceAdd,EJ,bI];simp only[SA,zX,aK,h1]
  have X4:(op == 5)=false:=by simpa using h5
  by_cases h6:op=6
  ·subst h6;have hX:rN (.mk 6 pl s0 s1 s2 s3 text mn mx nl' args) t fr=Ca args t fr c_:=by simp[rN]
   have z6:((6:Int) == 6)=true:=rfl;rw[hX];simp only[SA,jg,wJ,Cu,sW,X4,z6];refine wg (st:=λi=>[.int .i64 (i:Int),.int .u64 (Ca (args.take i) t fr c_).1,.int .u64 (Ca (args.take i) t fr c_).2.1,.int .u64 (Ca (args.take i) t fr c_).2.2.1,.int .u64 (Ca (args.take i) t fr c_).2.2.2]) (m:=args.length) (λi hi=>?_) ?_ (by omega)
   ·obtain⟨a,ha⟩:∃a,args[i]?=some a:=⟨args[i],by simp[hi]⟩
    obtain⟨uc,_,Hj⟩:=de i a ha;have uc:=uc _ ey;have TR:=EV (args.take i) t fr c_ (y_ i hr.2) Gx;have HD:=qM (zsh cU _ _ TR (Bg a t fr Hj));have h1:=Hv hi;have hn:=kS ha;have h4:=Ek (i:=i) (by omega)
    rw[zoh ha,zk8];generalize Ca (args.take i) t fr c_=s at HD ⊢;generalize rN a t fr=s' at uc HD ⊢;generalize wL s s'=s'' at HD ⊢;simp only[gH,hO,Nat.reduceAdd,EI];obtain⟨An,DB,DC,DD,DE,DF,lR,DG,DH,L4,dU⟩:=a;simp only[enc,bI] at uc HD hn;simp only[SA,jg,zX,zS,qI,aK,h1,hn,h4,uc,HD,rM]
   ·have h1:=Hw (bV args.length);rw[G2];simp only[gH,hO,Nat.reduceAdd,EI,bI];simp only[SA,zX,aK,h1]
  have h6':(op == 6)=false:=by simpa using h6
  by_cases h7:op=7
  ·subst h7;obtain⟨⟨a,rfl⟩,_⟩:=Rn hc.2.1;have z7:((7:Int) == 7)=true:=rfl;have PF:gh 0 0=false:=rfl;have hn:nth (bl [a]) 0=some (enc a):=rfl;obtain⟨uc,_,Hj⟩:=de 0 a rfl;have c83:=qM (r83 (e:=.mk 7 pl s0 s1 s2 s3 text mn mx nl' [a]) (nl:=nl) (t:=t) (fr:=fr) ⟨hg,hc,hr,ey,nu,ht⟩ rfl);have aW:=gy (.mk 7 pl s0 s1 s2 s3 text mn mx nl' [a]) t fr ey
   have hX:rN (.mk 7 pl s0 s1 s2 s3 text mn mx nl' [a]) t fr=rN a t (if mx = -1 then gE fr (rE (.mk 7 pl s0 s1 s2 s3 text mn mx nl' [a]) t fr) else fr):=by simp[rN,Rs]
   rw[hX]
   by_cases hm:mx = -1
   ·rw[if_pos hm];subst hm;generalize rE (.mk 7 pl s0 s1 s2 s3 text mn (-1) nl' [a]) t fr=X at c83 aW ⊢;have PE:=qM (r82 (a:=fr) (b:=X) ⟨by intro e;rw[show fr=[] from e] at ey;simp at ey,by dsimp only;omega,by dsimp only;omega⟩)
    have uc:=uc (gE fr X) (by rw[kY (by omega)];exact ey)
    generalize rN a t (gE fr X)=s at uc ⊢;generalize gE fr X=Y at uc PE ⊢;obtain⟨An,DB,DC,DD,DE,DF,lR,DG,DH,L4,dU⟩:=a;have zm:((-1:Int) == -1)=true:=rfl;simp only[enc,bI] at uc c83 hn ⊢;simp only[SA,jg,zX,qg,wJ,Cu,zS,qI,sW,X4,h6',z7,zm,PF,hn,c83,PE,uc,Mf]
   ·rw[if_neg hm];have Lo:(mx == -1)=false:=by simpa using hm
    have uc:=uc fr ey;generalize rN a t fr=s at uc ⊢;obtain⟨An,DB,DC,DD,DE,DF,lR,DG,DH,L4,dU⟩:=a;simp only[enc,bI] at uc hn ⊢;simp only[SA,jg,zX,wJ,Cu,zS,qI,sW,X4,h6',z7,Lo,PF,hn,uc,Mf]
  ·have h7':(op == 7)=false:=by simpa using h7
   have hX:rN (.mk op pl s0 s1 s2 s3 text mn mx nl' args) t fr=c_:=by simp[rN,h2,h5,h6,h7]
   rw[hX];simp only[SA,jg,wJ,Cu,sW,X4,h6',h7',bI,c_]
termination_by e=>hg e
decreasing_by simp only[YtlnijcffanjieaaGreatDoor.hg];have:=xI ha;omega
end
section
open Go Go.Vm
def In(l:List Bool)(j:Nat):Prop:=l.getD j false=true
def Re(L:Wo->Prop)(t:Wo)(fr:List Bool)(j:Nat):Prop:=∃i,i<=j/\In fr i/\L (sg (tf t) i j)
def Ru{a b:List Bool}(h:a.length=b.length)(j:Nat):In (gE a b) j ↔ In a j\/In b j:=by
 unfold In gE;rcases iT j a.length with hj|hj
 ·simp[List.getElem?_zipWith,lB hj,lB (show j<b.length by omega)]
 ·simp[List.getElem?_zipWith,tE hj,tE (show b.length<=j by omega)]
def zoj(n j:Nat):¬In (List.replicate n false) j:=by
 unfold In;rcases iT j n with hj|hj
 ·simp[hj]
 ·simp[tE (show(List.replicate n false).length<=j by simpa using hj)]
def zok{pl s0 s1 s2 s3 mn mx:Int}{tx:aR}{nl:Bool}{args:List E}(h:fX (.mk 7 pl s0 s1 s2 s3 tx mn mx nl args)=true):mx = -1\/mx=1:=by
 simp[fX] at h;omega
def zhl{op pl s0 s1 s2 s3 mn mx:Int}{tx:aR}{nl:Bool}{args:List E}(h:fX (.mk op pl s0 s1 s2 s3 tx mn mx nl args)=true):op=1\/op=2\/op=5\/op=6\/op=7:=by
 by_cases h1:op=1
 ·exact .inl h1
 by_cases h2:op=2
 ·exact .inr (.inl h2)
 by_cases h5:op=5
 ·exact .inr (.inr (.inl h5))
 by_cases h6:op=6
 ·exact .inr (.inr (.inr (.inl h6)))
 by_cases h7:op=7
 ·exact .inr (.inr (.inr (.inr h7)))
 simp[fX,h1,h2,h5,h6,h7] at h
def zpR{L:Wo->Prop}{t:Wo}{f:List Bool->List Bool}{w:Nat}(hw:w=t.length+1)(hl:∀l,l.length=w->(f l).length=w)(hf:∀l,l.length=w->∀j,j<=t.length->(In (f l) j ↔ Re L t l j))(fr:List Bool)(ey:fr.length=w) :
  ∀j,j<=t.length->(In (y9 f (fr.length+1) (f fr)) j ↔ Re (gY L) t fr j):=by
 intro j hj;obtain⟨m,m1,m2,m3,m4⟩:=zdk hl (fr.length+1) (f fr) (hl fr ey) (by have:=List.count_le_length (a:=false) (l:=f fr);have:=hl fr ey;omega)
 rw[m4];have pN:∀i,(kh f i (f fr)).length=w:=λi=>zdj hl i _ (hl fr ey);have hup:∀i j,j<=t.length->In (kh f i (f fr)) j->Re (gY L) t fr j:=by
  intro i
  induction i with
  | zero =>
   intro j hj h;obtain⟨i,i1,i2,i3⟩:=(hf fr ey j hj).1 h;exact⟨i,i1,i2,.one i3⟩
  | succ i ih =>
   intro j hj h;rw[XY,Ru (by rw[pN,hl _ (pN i)])] at h
   rcases h with h|h
   ·exact ih j hj h
   ·obtain⟨k,k1,k2,k3⟩:=(hf _ (pN i) j hj).1 h;obtain⟨i0,a1,a2,a3⟩:=ih k (by omega) k2
    exact⟨i0,by omega,a2,by rw[kU _ a1 k1];exact a3.app (.one k3)⟩
 have IU:∀i j,In (f fr) j->In (kh f i (f fr)) j:=by
  intro i
  induction i with
  | zero=>intro j h;exact h
  | succ i ih=>intro j h;rw[XY,Ru (by rw[pN,hl _ (pN i)])];exact .inl (ih j h)
 have gI:∀j,In (f (kh f m (f fr))) j->In (kh f m (f fr)) j:=λj h=>by
  rw[<- m3,Ru (by rw[pN,hl _ (pN m)])];exact .inr h
 have key:∀u,gY L u->∀(X:List Bool)(i j:Nat),X.length=w->(∀k,In (f X) k->In (kh f m (f fr)) k)->i<=j->j<=t.length->sg (tf t) i j=u->In X i->In (kh f m (f fr)) j:=by
  intro u hu
  induction hu with
  | one h =>
   intro X i j hX hs Dv hj e hi;exact hs j ((hf X hX j hj).2 ⟨i,Dv,hi,by rw[e];exact h⟩)
  | more h _ ih =>
   intro X i j hX hs Dv hj e hi;obtain⟨k,k1,k2,k3,k4⟩:=Nh Dv e;refine ih (kh f m (f fr)) k j (pN m) gI k2 hj k4.symm (hs k ((hf X hX k (by omega)).2 ⟨i,k1,hi,by rw[<- k3];exact h⟩))
 exact⟨hup m j hj,λ⟨i,i1,i2,i3⟩=>key _ i3 fr i j ey (IU m) i1 hj rfl i2⟩
mutual
def tD:∀(e:E),AH e->∀(t:Wo)(fr:List Bool),fr.length=t.length+1->∀j,j<=t.length->(In (rE e t fr) j ↔ Re (dh e) t fr j)
 | .mk op pl s0 s1 s2 s3 text mn mx nl args,hc,t,fr,ey,j,hj=>by
  rcases zhl hc.2.1 with rfl|rfl|rfl|rfl|rfl
  ·have h1:rE (.mk 1 pl s0 s1 s2 s3 text mn mx nl args) t fr=fr:=by simp[rE]
   rw[h1];constructor
   ·intro h;exact⟨j,bV _,h,by simp[dh,kC]⟩
   ·rintro⟨i,i1,i2,i3⟩;have h3:sg (tf t) i j=[]:=by simpa[dh] using i3
    have:=congrArg List.length h3;rw[wy] at this;obtain rfl:i=j:=by simp at this;omega
    exact i2
  ·have h1:rE (.mk 2 pl s0 s1 s2 s3 text mn mx nl args) t fr=false::List.zipWith (λf c=>f && qN (s0,s1,s2,s3) c) fr t:=by simp[rE]
   have hL:∀u,dh (.mk 2 pl s0 s1 s2 s3 text mn mx nl args) u ↔ ∃c,u=[c]/\qN (s0,s1,s2,s3) c=true:=λu=>by simp[dh]
   rw[h1];unfold Re;simp only[hL];cases j with
   | zero =>
    refine⟨λh=>by simp[In] at h,?_⟩
    rintro⟨i,i1,_,c,i3,_⟩;have:=congrArg List.length i3;rw[wy] at this;simp at this
   | succ k =>
    have hk:k<t.length:=hj;have hg:In (false::List.zipWith (λf c=>f && qN (s0,s1,s2,s3) c) fr t) (k+1) ↔ In fr k/\qN (s0,s1,s2,s3) (tf t k)=true:=by
     simp[In,List.getElem?_zipWith,lB hk,lB (show k<fr.length by omega),tf]
    rw[hg];constructor
    ·rintro⟨h1,h2⟩;exact⟨k,Nat.le_succ k,h1,tf t k,by rw[UE _ (bV k),kC];rfl,h2⟩
    ·rintro⟨i,i1,i2,c,i3,i4⟩;have hl:=congrArg List.length i3;rw[wy] at hl;obtain rfl:i=k:=by simp at hl;omega
     rw[UE _ (bV i),kC] at i3;simp at i3;exact⟨i2,by rw[i3];exact i4⟩
  ·have h1:rE (.mk 5 pl s0 s1 s2 s3 text mn mx nl args) t fr=rC args t fr:=by simp[rE]
   have hL:dh (.mk 5 pl s0 s1 s2 s3 text mn mx nl args)=oN args:=by funext u;simp[dh]
   rw[h1,hL];exact Nr args hc.2.2.2 t fr ey j hj
  ·have h1:rE (.mk 6 pl s0 s1 s2 s3 text mn mx nl args) t fr=rU args t fr (List.replicate fr.length false):=by simp[rE]
   have hL:dh (.mk 6 pl s0 s1 s2 s3 text mn mx nl args)=rJ args:=by funext u;simp[dh]
   rw[h1,hL,Ns args hc.2.2.2 t fr _ ey (by simp;exact ey) j hj]
   exact or_iff_right (zoj _ _)
  ·have h1:rE (.mk 7 pl s0 s1 s2 s3 text mn mx nl args) t fr=rH args mn mx t fr:=by simp[rE]
   have hL:dh (.mk 7 pl s0 s1 s2 s3 text mn mx nl args)=λu=>(mn=0/\u=[])\/(if mx<0 then gY (mb args) u else mb args u):=by funext u;simp[dh]
   rw[h1,hL];exact UZ args (Rn hc.2.1).1 hc.2.2.2 mn mx (zok hc.2.1) t fr ey j hj
def Nr:∀(l:List E),oq l->∀(t:Wo)(fr:List Bool),fr.length=t.length+1->∀j,j<=t.length->(In (rC l t fr) j ↔ Re (oN l) t fr j)
 | [],_,t,fr,ey,j,hj=>by
  simp only[rC];constructor
  ·intro h;exact⟨j,bV _,h,by simp[oN,kC]⟩
  ·rintro⟨i,i1,i2,i3⟩;have h3:sg (tf t) i j=[]:=by simpa[oN] using i3
   have:=congrArg List.length h3;rw[wy] at this;obtain rfl:i=j:=by simp at this;omega
   exact i2
 | a::l,hc,t,fr,ey,j,hj=>by
  simp only[rC];rw[Nr l hc.2 t _ (gy a t fr ey) j hj];constructor
  ·rintro⟨k,k1,k2,k3⟩;obtain⟨i,i1,i2,i3⟩:=(tD a hc.1 t fr ey k (by omega)).1 k2
   exact⟨i,by omega,i2,_,_,kU _ i1 k1,i3,k3⟩
  ·rintro⟨i,i1,i2,x,y,e,hx,hy⟩;obtain⟨k,k1,k2,k3,k4⟩:=Nh i1 e;exact⟨k,k2,(tD a hc.1 t fr ey k (by omega)).2 ⟨i,k1,i2,by rw[<- k3];exact hx⟩,by rw[<- k4];exact hy⟩
def Ns:∀(l:List E),oq l->∀(t:Wo)(fr acc:List Bool),fr.length=t.length+1->acc.length=t.length+1->∀j,j<=t.length->(In (rU l t fr acc) j ↔ In acc j\/Re (rJ l) t fr j)
 | [],_,t,fr,acc,ey,ha,j,hj=>by
  simp only[rU];refine⟨.inl,?_⟩;rintro(h|⟨i,_,_,h⟩)
  ·exact h
  ·exact h.elim
 | a::l,hc,t,fr,acc,ey,ha,j,hj=>by
  have hl:=gy a t fr ey;simp only[rU];rw[Ns l hc.2 t fr _ ey (by rw[kY (by omega)];exact ha) j hj,Ru (by omega),tD a hc.1 t fr ey j hj]
  constructor
  ·rintro((h|⟨i,i1,i2,i3⟩)|⟨i,i1,i2,i3⟩)
   ·exact .inl h
   ·exact .inr ⟨i,i1,i2,.inl i3⟩
   ·exact .inr ⟨i,i1,i2,.inr i3⟩
  ·rintro(h|⟨i,i1,i2,i3|i3⟩)
   ·exact .inl (.inl h)
   ·exact .inl (.inr ⟨i,i1,i2,i3⟩)
   ·exact .inr ⟨i,i1,i2,i3⟩
def UZ:∀(l:List E),(∃a,l=[a])->oq l->∀(mn mx:Int),(mx = -1\/mx=1)->∀(t:Wo)(fr:List Bool),fr.length=t.length+1->∀j,j<=t.length->(In (rH l mn mx t fr) j ↔ Re (λu=>(mn=0/\u=[])\/(if mx<0 then gY (mb l) u else mb l u)) t fr j)
 | [],h,_,_,_,_,_,_,_,_,_=>by obtain⟨a,h⟩:=h;cases h
 | a::l,h,hc,mn,mx,KS,t,fr,ey,j,hj=>by
  have hA:∀fr:List Bool,fr.length=t.length+1->(rE a t fr).length=t.length+1:=λfr h=>gy a t fr h;have hB:∀fr:List Bool,fr.length=t.length+1->∀j,j<=t.length->(In (rE a t fr) j ↔ Re (dh a) t fr j):=λfr h j hj=>tD a hc.1 t fr h j hj
  have sn:(In (if mx = -1 then y9 (rE a t) (fr.length+1) (rE a t fr) else rE a t fr) j ↔ Re (λu=>if mx<0 then gY (dh a) u else dh a u) t fr j):=by
   rcases KS with rfl|rfl
   ·rw[if_pos rfl];exact zpR rfl hA hB fr ey j hj
   ·rw[if_neg (by decide)]
    exact hB fr ey j hj
  have hlen:(if mx = -1 then y9 (rE a t) (fr.length+1) (rE a t fr) else rE a t fr).length=t.length+1:=by
   split
   ·exact zdi hA _ _ (hA fr ey)
   ·exact hA fr ey
  simp only[rH,mb]
  by_cases hm:mn=0
  ·rw[if_pos hm,Ru (by omega),sn]
   constructor
   ·rintro(⟨i,i1,i2,i3⟩|h)
    ·exact⟨i,i1,i2,.inr i3⟩
    ·exact⟨j,bV _,h,.inl ⟨hm,kC _ _⟩⟩
   ·rintro⟨i,i1,i2,⟨_,i3⟩|i3⟩
    ·have:=congrArg List.length i3;rw[wy] at this;obtain rfl:i=j:=by simp at this;omega
     exact .inr i2
    ·exact .inl ⟨i,i1,i2,i3⟩
  ·rw[if_neg hm,sn];constructor
   ·rintro⟨i,i1,i2,i3⟩;exact⟨i,i1,i2,.inr i3⟩
   ·rintro⟨i,i1,i2,⟨h,_⟩|i3⟩
    ·exact absurd h hm
    ·exact⟨i,i1,i2,i3⟩
end
mutual
def Cb:∀(e:E),AH e->Rg e->(gC e=true ↔ ∃u,dh e u)
 | .mk op pl s0 s1 s2 s3 text mn mx nl args,hc,hr=>by
  rcases zhl hc.2.1 with rfl|rfl|rfl|rfl|rfl
  ·simp[gC,dh]
  ·have h1:gC (.mk 2 pl s0 s1 s2 s3 text mn mx nl args)=!(s0 == 0 && (s1 == 0 && (s2 == 0 && s3 == 0))):=by simp[gC]
   rw[h1];constructor
   ·intro h;have cg:(s0,s1,s2,s3)≠c_:=λe=>by simp[c_] at e;simp[e] at h
    obtain⟨c,_,h2⟩:=ziJ hr.1 cg;exact⟨[c],by simp[dh];exact h2⟩
   ·rintro⟨u,hu⟩;obtain⟨c,_,h2⟩:∃c,u=[c]/\qN (s0,s1,s2,s3) c=true:=by simpa[dh] using hu
    cases hb:(s0 == 0 && (s1 == 0 && (s2 == 0 && s3 == 0))) with
    | false=>rfl
    | true =>
     simp at hb;rw[hb.1,hb.2.1,hb.2.2.1,hb.2.2.2] at h2;have:=wq c;rw[c_] at this;rw[this] at h2;cases h2
  ·have h1:gC (.mk 5 pl s0 s1 s2 s3 text mn mx nl args)=ia args:=by simp[gC]
   have hL:dh (.mk 5 pl s0 s1 s2 s3 text mn mx nl args)=oN args:=by funext u;simp[dh]
   rw[h1,hL];exact rL args hc.2.2.2 hr.2
  ·have h1:gC (.mk 6 pl s0 s1 s2 s3 text mn mx nl args)=oX args:=by simp[gC]
   have hL:dh (.mk 6 pl s0 s1 s2 s3 text mn mx nl args)=rJ args:=by funext u;simp[dh]
   rw[h1,hL];exact Dn args hc.2.2.2 hr.2
  ·have h1:gC (.mk 7 pl s0 s1 s2 s3 text mn mx nl args)=((mn == 0) || Bc args):=by simp[gC]
   have hL:dh (.mk 7 pl s0 s1 s2 s3 text mn mx nl args)=λu=>(mn=0/\u=[])\/(if mx<0 then gY (mb args) u else mb args u):=by funext u;simp[dh]
   rw[h1,hL,gZ,JZ args hc.2.2.2 hr.2];constructor
   ·rintro(h|⟨u,hu⟩)
    ·exact⟨[],.inl ⟨by simpa using h,rfl⟩⟩
    ·refine⟨u,.inr ?_⟩;split
     ·exact .one hu
     ·exact hu
   ·rintro⟨u,⟨h,_⟩|h⟩
    ·exact .inl (by simpa using h)
    ·right
     split at h
     ·cases h with
      | one h=>exact⟨_,h⟩
      | more h _=>exact⟨_,h⟩
     ·exact⟨_,h⟩
def rL:∀(l:List E),oq l->AJ l->(ia l=true ↔ ∃u,oN l u)
 | [],_,_=>by simp[ia,oN]
 | a::l,hc,hr=>by
  simp only[ia,bN,Cb a hc.1 hr.1,rL l hc.2 hr.2,oN];constructor
  ·rintro⟨⟨x,hx⟩,y,hy⟩;exact⟨x++y,x,y,rfl,hx,hy⟩
  ·rintro⟨u,x,y,_,hx,hy⟩;exact⟨⟨x,hx⟩,y,hy⟩
def Dn:∀(l:List E),oq l->AJ l->(oX l=true ↔ ∃u,rJ l u)
 | [],_,_=>by simp[oX,rJ]
 | a::l,hc,hr=>by
  simp only[oX,gZ,Cb a hc.1 hr.1,Dn l hc.2 hr.2,rJ];constructor
  ·rintro(⟨u,hu⟩|⟨u,hu⟩)
   ·exact⟨u,.inl hu⟩
   ·exact⟨u,.inr hu⟩
  ·rintro⟨u,hu|hu⟩
   ·exact .inl ⟨u,hu⟩
   ·exact .inr ⟨u,hu⟩
def JZ:∀(l:List E),oq l->AJ l->(Bc l=true ↔ ∃u,mb l u)
 | [],_,_=>by simp[Bc,mb]
 | a::l,hc,hr=>by simp only[Bc,mb,Cb a hc.1 hr.1]
end
def Nf(L:Wo->Prop)(t:Wo)(fr:List Bool)(c:Nat):Prop:=∃i,i<=t.length/\In fr i/\∃v,L (sg (tf t) i t.length++c::v)
def zpS{L:Wo->Prop}{t:Wo}{fr X:List Bool}{c:Nat}(hX:∀j,j<=t.length->(In X j ↔ In fr j\/Re (gY L) t fr j)):Nf L t X c ↔ Nf (gY L) t fr c:=by
 constructor
 ·rintro⟨i,i1,i2,v,hv⟩;rcases (hX i i1).1 i2 with h|⟨k,k1,k2,k3⟩
  ·exact⟨i,i1,h,v,.one hv⟩
  ·refine⟨k,by omega,k2,v,?_⟩
   rw[kU _ k1 i1,nI];exact k3.app (.one hv)
 ·rintro⟨i,i1,i2,v,hv⟩;have key:∀u,gY L u->∀i v,i<=t.length->In X i->u=sg (tf t) i t.length++c::v->Nf L t X c:=by
   intro u hu
   induction hu with
   | one h=>intro i v h1 h2 e;exact⟨i,h1,h2,v,by rw[<- e];exact h⟩
   | @more u w h _ ih =>
    intro i v h1 h2 e;rcases XL e.symm with⟨v',cP⟩|⟨z,hz,hy⟩
    ·exact⟨i,h1,h2,v',by rw[<- cP];exact h⟩
    ·obtain⟨k,k1,k2,k3,k4⟩:=Nh h1 hz;refine ih k v k2 ((hX k k2).2 ?_) (by rw[hy,k4])
     right
     rcases (hX i h1).1 h2 with h'|⟨q,q1,q2,q3⟩
     ·exact⟨i,k1,h',.one (by rw[<- k3];exact h)⟩
     ·exact⟨q,by omega,q2,by rw[kU _ q1 k1];exact q3.app (.one (by rw[<- k3];exact h))⟩
  exact key _ hv i v i1 ((hX i i1).2 (.inl i2)) rfl
mutual
def Dp:∀(e:E),AH e->Rg e->∀(t:Wo)(fr:List Bool),fr.length=t.length+1->∀c,(qN (rN e t fr) c=true ↔ Nf (dh e) t fr c)
 | .mk op pl s0 s1 s2 s3 text mn mx nl args,hc,hr,t,fr,ey,c=>by
  rcases zhl hc.2.1 with rfl|rfl|rfl|rfl|rfl
  ·have h1:rN (.mk 1 pl s0 s1 s2 s3 text mn mx nl args) t fr=c_:=by simp[rN]
   rw[h1,wq];refine⟨λh=>(by cases h),?_⟩
   rintro⟨i,_,_,v,hv⟩;simp[dh] at hv
  ·have h1:rN (.mk 2 pl s0 s1 s2 s3 text mn mx nl args) t fr=if fr.getD t.length false then (s0,s1,s2,s3) else c_:=by simp[rN]
   rw[h1];constructor
   ·intro h;cases hb:fr.getD t.length false with
    | false=>rw[hb] at h;simp only[bH,aZ,wq] at h
    | true =>
     rw[hb,if_pos rfl] at h;exact⟨t.length,bV _,hb,[],by simp[dh,kC];exact h⟩
   ·rintro⟨i,i1,i2,v,hv⟩;obtain⟨d,hd,hh⟩:∃d,sg (tf t) i t.length++c::v=[d]/\qN (s0,s1,s2,s3) d=true:=by simpa[dh] using hv
    have hl:=congrArg List.length hd;rw[oI,wy] at hl;simp at hl;obtain rfl:i=t.length:=by omega
    rw[kC] at hd;simp at hd;have:fr.getD t.length false=true:=i2;rw[this,if_pos rfl,hd.1];exact hh
  ·have h1:rN (.mk 5 pl s0 s1 s2 s3 text mn mx nl args) t fr=if ia args then B_ args t fr c_ else c_:=by simp[rN]
   have hL:dh (.mk 5 pl s0 s1 s2 s3 text mn mx nl args)=oN args:=by funext u;simp[dh]
   rw[h1,hL];cases hs:ia args with
   | false =>
    simp only[bH,aZ,wq];refine⟨λh=>(by cases h),?_⟩
    rintro⟨i,_,_,v,hv⟩;have:=(rL args hc.2.2.2 hr.2).2 ⟨_,hv⟩;rw[hs] at this;cases this
   | true =>
    rw[if_pos rfl,J0 args hc.2.2.2 hr.2 t fr ey hs c_ c,wq];exact or_iff_right (by decide)
  ·have h1:rN (.mk 6 pl s0 s1 s2 s3 text mn mx nl args) t fr=Ca args t fr c_:=by simp[rN]
   have hL:dh (.mk 6 pl s0 s1 s2 s3 text mn mx nl args)=rJ args:=by funext u;simp[dh]
   rw[h1,hL,J1 args hc.2.2.2 hr.2 t fr ey c_ c,wq];exact or_iff_right (by decide)
  ·obtain⟨⟨a,rfl⟩,_⟩:=Rn hc.2.1;have h1:rN (.mk 7 pl s0 s1 s2 s3 text mn mx nl [a]) t fr=rN a t (if mx = -1 then gE fr (rE (.mk 7 pl s0 s1 s2 s3 text mn mx nl [a]) t fr) else fr):=by simp[rN,Rs]
   have hL:dh (.mk 7 pl s0 s1 s2 s3 text mn mx nl [a])=λu=>(mn=0/\u=[])\/(if mx<0 then gY (dh a) u else dh a u):=by funext u;simp[dh,mb]
   have hE:=tD (.mk 7 pl s0 s1 s2 s3 text mn mx nl [a]) hc t fr ey;have hlE:=gy (.mk 7 pl s0 s1 s2 s3 text mn mx nl [a]) t fr ey;rw[hL] at hE ⊢;rw[h1];rcases zok hc.2.1 with rfl|rfl
   ·rw[if_pos rfl,Dp a hc.2.2.2.1 hr.2.1 t _ (by rw[kY (by omega)];exact ey) c,zpS (fr:=fr) (λj hj=>?_)]
    ·constructor
     ·rintro⟨i,i1,i2,v,hv⟩;exact⟨i,i1,i2,v,.inr hv⟩
     ·rintro⟨i,i1,i2,v,⟨_,hv⟩|hv⟩
      ·simp at hv
      ·exact⟨i,i1,i2,v,hv⟩
    ·rw[Ru (by omega),hE j hj]
     constructor
     ·rintro(h|⟨i,i1,i2,⟨_,i3⟩|i3⟩)
      ·exact .inl h
      ·have:=congrArg List.length i3;rw[wy] at this;obtain rfl:i=j:=by simp at this;omega
       exact .inl i2
      ·exact .inr ⟨i,i1,i2,i3⟩
     ·rintro(h|⟨i,i1,i2,i3⟩)
      ·exact .inl h
      ·exact .inr ⟨i,i1,i2,.inr i3⟩
   ·rw[if_neg (by decide),Dp a hc.2.2.2.1 hr.2.1 t fr ey c]
    constructor
    ·rintro⟨i,i1,i2,v,hv⟩;exact⟨i,i1,i2,v,.inr hv⟩
    ·rintro⟨i,i1,i2,v,⟨_,hv⟩|hv⟩
     ·simp at hv
     ·exact⟨i,i1,i2,v,hv⟩
def J0:∀(l:List E),oq l->AJ l->∀(t:Wo)(fr:List Bool),fr.length=t.length+1->ia l=true->∀(s:fS)(c:Nat),(qN (B_ l t fr s) c=true ↔ qN s c=true\/Nf (oN l) t fr c)
 | [],_,_,t,fr,ey,_,s,c=>by
  simp only[B_];refine⟨.inl,?_⟩;rintro(h|⟨i,_,_,v,hv⟩)
  ·exact h
  ·simp[oN] at hv
 | a::l,hc,hr,t,fr,ey,hs,s,c=>by
  simp only[ia,bN] at hs;have hlE:=gy a t fr ey;simp only[B_];rw[J0 l hc.2 hr.2 t _ hlE hs.2 _ c,y7,gZ,Dp a hc.1 hr.1 t fr ey c];constructor
  ·rintro((h|⟨i,i1,i2,v,hv⟩)|⟨k,k1,k2,v,hv⟩)
   ·exact .inl h
   ·obtain⟨y,hy⟩:=(rL l hc.2 hr.2).1 hs.2;exact .inr ⟨i,i1,i2,v++y,_,_,by rw[<- iQ,<- nI],hv,hy⟩
   ·obtain⟨i,i1,i2,i3⟩:=(tD a hc.1 t fr ey k k1).1 k2;exact .inr ⟨i,by omega,i2,v,_,_,by rw[kU _ i1 k1,nI],i3,hv⟩
  ·rintro(h|⟨i,i1,i2,v,x,y,e,hx,hy⟩)
   ·exact .inl (.inl h)
   ·rcases XL e with⟨v',cP⟩|⟨z,hz,Sw⟩
    ·exact .inl (.inr ⟨i,i1,i2,v',by rw[<- cP];exact hx⟩)
    ·obtain⟨k,k1,k2,k3,k4⟩:=Nh i1 hz;exact .inr ⟨k,k2,(tD a hc.1 t fr ey k k2).2 ⟨i,k1,i2,by rw[<- k3];exact hx⟩,v,by rw[<- k4,<- Sw];exact hy⟩
def J1:∀(l:List E),oq l->AJ l->∀(t:Wo)(fr:List Bool),fr.length=t.length+1->∀(s:fS)(c:Nat),(qN (Ca l t fr s) c=true ↔ qN s c=true\/Nf (rJ l) t fr c)
 | [],_,_,t,fr,ey,s,c=>by
  simp only[Ca];refine⟨.inl,?_⟩;rintro(h|⟨i,_,_,v,hv⟩)
  ·exact h
  ·exact hv.elim
 | a::l,hc,hr,t,fr,ey,s,c=>by
  simp only[Ca];rw[J1 l hc.2 hr.2 t fr ey _ c,y7,gZ,Dp a hc.1 hr.1 t fr ey c];constructor
  ·rintro((h|⟨i,i1,i2,v,hv⟩)|⟨i,i1,i2,v,hv⟩)
   ·exact .inl h
   ·exact .inr ⟨i,i1,i2,v,.inl hv⟩
   ·exact .inr ⟨i,i1,i2,v,.inr hv⟩
  ·rintro(h|⟨i,i1,i2,v,hv|hv⟩)
   ·exact .inl (.inl h)
   ·exact .inl (.inr ⟨i,i1,i2,v,hv⟩)
   ·exact .inr ⟨i,i1,i2,v,hv⟩
end
def X5(t:Wo)(i:Nat):In (lZ t) i ↔ i=0:=by
 cases i with
 | zero=>simp[In,lZ]
 | succ i=>simp only[In,lZ,List.getD_cons_succ];exact⟨λh=>absurd h (zoj _ _),λh=>by cases h⟩
def z_:∀(t:Wo)(w:Wd)(i:Nat)(p:Nat->Bool),(∀k,i<k->k<=i+t.length->(p k=true ↔ k∈eu w i t))->(List.range' (i+1) t.length).filter p=eu w i t
 | [],w,i,p,h=>rfl
 | b::t,w,i,p,h=>by
  simp only[eu,fY,List.range'_succ];have h0:=h (i+1) (by omega) (by simp)
  have hgt:∀k,k∈eu (fu w (i == 0) b).1 (i+1) t->i+1<k:=λk hk=>oF t _ _ k hk
  have ih:=z_ t (fu w (i == 0) b).1 (i+1) p (λk k1 k2=>by
   rw[h k (by omega) (by simp;omega)]
   simp only[eu,rO];refine or_iff_right ?_
   split<;>simp<;>omega)
  rw[List.filter_cons,ih];have Ee:p (i+1)=(fu w (i == 0) b).2:=by
   rw[FY,h0];simp only[eu,rO];constructor
   ·rintro(h|h)
    ·split at h
     ·assumption
     ·simp at h
    ·have:=hgt _ h;omega
   ·intro h;rw[if_pos h];simp
  rw[Ee];split<;>simp
def zol{w:Wd}{t:Wo}{p:Nat->Bool}(h:∀k,k<=t.length->(p k=true ↔ k∈vm w t)):(List.range (t.length+1)).filter p=vm w t:=by
 have h0:=h 0 (dJ _);rw[zf3] at h0
 have hg:=z_ t w 0 p (λk k1 k2=>by
  rw[h k (by omega)]
  unfold vm;rw[rO];refine or_iff_right ?_
  split<;>simp<;>omega)
 rw[List.range_eq_range',List.range'_succ,List.filter_cons];rw[eM] at hg;rw[eM,hg];unfold vm;have Ee:p 0=gJ w:=by rw[FY];exact h0
 rw[Ee];split<;>simp
def zom{e:E}(hc:AH e)(hr:Rg e)(t:Wo):FK (rE e t (lZ t)) (t.length+1)=q7 e t:=by
 have o6:(lZ t).length=t.length+1:=by simp[lZ]
 have hR:∀k,k<=t.length->(In (rE e t (lZ t)) k ↔ dh e (t.take k)):=λk hk=>by
  rw[tD e hc t (lZ t) o6 k hk];constructor
  ·rintro⟨i,i1,i2,i3⟩;obtain rfl:=(X5 t i).1 i2
   rwa [Py t k hk] at i3
  ·intro h;exact⟨0,dJ _,(X5 t 0).2 rfl,by rw[Py t k hk];exact h⟩
 have f:=B8 _ e (bV _) hc hr;unfold q7 FK;cases hw:h_ e with
 | none =>
  rw[hw] at f;rw[List.filter_eq_nil_iff];intro k hk h;exact f _ ((hR k (by simp at hk;omega)).1 h)
 | some w =>
  rw[hw] at f;obtain⟨f1,f2,f3⟩:=f;refine zol λk hk=>?_;rw[zpE f1 f2,f3];exact(hR k hk).trans ⟨λh=>⟨hk,h⟩,λh=>h.2⟩
def zon{e:E}(hc:AH e)(hr:Rg e)(t:Wo):rN e t (lZ t)=vj e t:=by
 have o6:(lZ t).length=t.length+1:=by simp[lZ]
 have hs:=Py t t.length (bV _);rw[G2] at hs;refine Xo (Bg e t _ hr) (zpM hc hr) λc _=>?_;rw[FY,Dp e hc hr t (lZ t) o6 c];have hN:Nf (dh e) t (lZ t) c ↔ ∃v,dh e (t++c::v):=by
  constructor
  ·rintro⟨i,_,i2,v,hv⟩;obtain rfl:=(X5 t i).1 i2;rw[hs] at hv;exact⟨v,hv⟩
  ·rintro⟨v,hv⟩;exact⟨0,dJ _,(X5 t 0).2 rfl,v,by rw[hs];exact hv⟩
 rw[hN];have f:=B8 _ e (bV _) hc hr;unfold vj;cases hw:h_ e with
 | none =>
  rw[hw] at f;simp only[wq];exact⟨λ⟨v,hv⟩=>(f _ hv).elim,λh=>by cases h⟩
 | some w =>
  rw[hw] at f;obtain⟨f1,f2,f3⟩:=f;rw[zsj f1 f2,f3]
end
section
open Go Go.Vm Go.Vm.Sx
def ziX{x y:V}:we prog [27,34] [.d x,.d y] 0:=by
 refine⟨λe=>?_,λe=>?_,trivial⟩
 ·rw[underlying27];simp
 ·rw[underlying34];simp
def L5(e:E)(t:aR):V:=if e_ e t then .bx [oV (q7 e t),wd 0] else .bx [.aU,wd 15]
def L6(e:E)(t:aR):V:=if e_ e t then .bx [bI (vj e t),wd 0] else .bx [bI c_,wd 15]
def q54{e:E}{nl:Bool}{t:aR}(he:oY e)(hr:Rg e)(hk:v4 e=true)(hl:t.length<=65536)(ht:∀b∈t,b<256):Cv ⟨e,nl,t,lZ t⟩:=⟨he,Rj hk,hr,by simp[lZ],hl,ht⟩
def ztC{e:E}{nl:Bool}{t:aR}(he:oY e)(hr:Rg e)(hn:nodes e<=65536)(ht:∀b∈t,b<256):Ev prog AL 29 [.d (enc e),.d (zI nl t)] [] (L5 e t) []:=by
 have cU:=GLR;refine qv (xs:=[enc e,zI nl t]) cU.top (λargs=>iz EW (by rfl)) GQ func29 (by kernel_rfl) ziX (by simp[aA,cL,kB]) (N:=1) ?_
 have J2:=qM (zsf cU e he.1);rw[zkZ e hn] at J2;have U0:=qM (zsm cU 15);have hq:=λh=>q54 (nl:=nl) (t:=t) he hr (show v4 e=true from h);have Vl:v4 e=true->FK (rE e t (lZ t)) (t.length+1)=q7 e t:=λh=>zom (Rj h) hr t;have MT:=gy e t (lZ t) (show(lZ t).length=t.length+1 by simp[lZ])
 have eA:e_ e t=(v4 e && decide (t.length<=65536)):=rfl;unfold L5;rw[eA];have Dk:∀hh hl,rV prog AL 54 [.d (enc e),.d (zI nl t),.d (dn (lZ t))] []=some (dn (rE e t (lZ t)),[]):=λhh hl=>qM (r54 (hq hh hl ht));have PJ:t.length<=65536->rV prog AL 55 [.d (zI nl t)] []=some (dn (lZ t),[]):=λhl=>qM (r55 hl)
 have X6:t.length<=65536->rV prog AL 53 [.d (dn (rE e t (lZ t)))] []=some (acc 1 3 (kD (FK (rE e t (lZ t)) (t.length+1))),[]):=λhl=>by have:=ztx cU (rE e t (lZ t)) (by omega);rw[MT] at this;exact qM this
 simp only[gH,hO,Nat.reduceAdd,JH];obtain⟨op,pl,s0,s1,s2,s3,text,mn,mx,nl',args⟩:=e;generalize v4 (.mk op pl s0 s1 s2 s3 text mn mx nl' args)=cb at *;generalize q7 (.mk op pl s0 s1 s2 s3 text mn mx nl' args) t=gd at *;generalize rE (.mk op pl s0 s1 s2 s3 text mn mx nl' args) t (lZ t)=X at *;simp only[enc] at J2 Dk ⊢;cases cb with
 | false=>simp only[SA,jg,qg,wJ,kT,J2,U0,wd,bH,aZ]
 | true =>
  by_cases hl:t.length<=65536
  ·have z:gh 65536 (t.length:Int)=false:=yZ (by omega)
   have Dk:=Dk rfl hl;have PJ:=PJ hl;have X6:=X6 hl;rw[Vl rfl] at X6;rw[if_pos (by simpa using hl)]
   have ka:fm (.sl 1) (acc 1 3 (kD gd))=true:=zrQ ..;have kc:aX (acc 1 3 (kD gd))=oV gd:=zpe ..;simp only[SA,jg,qg,wJ,zS,kT,oO,J2,Dk,PJ,X6,z,wd,Cu,qI,ka,kc]
  ·have z:gh 65536 (t.length:Int)=true:=yf (by omega)
   rw[if_neg (by simpa using hl)]
   simp only[SA,jg,qg,wJ,kT,oO,J2,U0,z,wd]
def ztD{e:E}{nl:Bool}{t:aR}(he:oY e)(hr:Rg e)(hn:nodes e<=65536)(ht:∀b∈t,b<256):Ev prog AL 30 [.d (enc e),.d (zI nl t)] [] (L6 e t) []:=by
 have cU:=GLR;refine qv (xs:=[enc e,zI nl t]) cU.top (λargs=>iz EW (by rfl)) GR func30 (by kernel_rfl) ziX (by simp[aA,cL,kB]) (N:=1) ?_
 have J2:=qM (zsf cU e he.1);rw[zkZ e hn] at J2;have U0:=qM (zsm cU 15);have eA:e_ e t=(v4 e && decide (t.length<=65536)):=rfl;unfold L6;rw[eA];have PJ:t.length<=65536->rV prog AL 55 [.d (zI nl t)] []=some (dn (lZ t),[]):=λhl=>qM (r55 hl)
 have X7:v4 e=true->t.length<=65536->rV prog AL 56 [.d (enc e),.d (zI nl t),.d (dn (lZ t))] []=some (bI (vj e t),[]):=λhk hl=>by
  have:=zsx (nl:=nl) hl ht e he (Rj hk) hr (lZ t) (by simp[lZ])
  rw[zon (Rj hk) hr] at this;exact qM this
 simp only[gH,hO,Nat.reduceAdd,JI];obtain⟨op,pl,s0,s1,s2,s3,text,mn,mx,nl',args⟩:=e;generalize v4 (.mk op pl s0 s1 s2 s3 text mn mx nl' args)=cb at *;generalize vj (.mk op pl s0 s1 s2 s3 text mn mx nl' args) t=X at *;obtain⟨x0,x1,x2,x3⟩:=X;simp only[enc,bI,c_] at J2 X7 ⊢;cases cb with
 | false=>simp only[SA,jg,qg,wJ,kT,J2,U0,wd,bH,aZ]
 | true =>
  by_cases hl:t.length<=65536
  ·have z:gh 65536 (t.length:Int)=false:=yZ (by omega)
   have X7:=X7 rfl hl;have PJ:=PJ hl;rw[if_pos (by simpa using hl)]
   simp only[SA,jg,qg,wJ,zS,kT,oO,J2,X7,PJ,z,wd,Cu,qI]
  ·have z:gh 65536 (t.length:Int)=true:=yf (by omega)
   rw[if_neg (by simpa using hl)]
   simp only[SA,jg,qg,wJ,kT,oO,J2,U0,z,wd]
end
end Go.Proofs.YtlnijcffanjieaaGreatDoor
