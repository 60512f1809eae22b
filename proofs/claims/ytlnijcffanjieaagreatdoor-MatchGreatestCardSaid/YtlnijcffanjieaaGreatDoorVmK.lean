/- Seat 7: expressions as data; Seat 7: what expressions are checked by, how great they are, out of their trees; Seat 7: sets of bytes: Has, Union, out of the trees; what they say of members; and what follows from it. Conditions: none but those that each theorem names. -/
import Derived.Test.YtlnijcffanjieaaGreatDoorVmF
import Derived.Test.YtlnijcffanjieaaGreatDoorVmG
import Derived.Test.YtlnijcffanjieaaGreatDoorVmI
import Derived.Test.YtlnijcffanjieaaGreatDoorVmJ
namespace Go.Proofs.YtlnijcffanjieaaGreatDoor
open Go Go.Vm
inductive E where
 |mk (op pl s0 s1 s2 s3:Int) (text:List Nat) (mn mx:Int) (nl:Bool) (args:List E)
def jM (nl:Bool) (l:List V):V:=if nl && l.isEmpty then .snil else .sl 10 l .no
mutual
def enc:E->V
 | .mk op pl s0 s1 s2 s3 text mn mx nl args=>.agg [.int .i64 op,.int .i64 pl,.int .u64 s0,.int .u64 s1,.int .u64 s2,.int .u64 s3,.str text,.int .i64 mn,.int .i64 mx,jM nl (encs args)]
def encs:List E->List V
 | []=>[]
 | e::es=>enc e::encs es
end
theorem encs_length:∀ (l:List E),(encs l).length=l.length
 | []=>rfl
 | e::l=>by simp [encs,encs_length l]
theorem encs_get:∀ (l:List E) (i:Nat),(encs l)[i]?=(l[i]?).map enc
 | [],i=>by simp [encs]
 | e::l,0=>by simp [encs]
 | e::l,i+1=>by simp [encs,encs_get l i]
theorem kX (nl:Bool) (l:List V):jM nl l=.sl 10 l .no\/(l=[]/\jM nl l=.snil):=by
 unfold jM;split
 ·rename_i h;rw [zAF] at h;exact .inr ⟨by simpa using h.2,rfl⟩
 ·exact .inl rfl
theorem jN {nl:Bool} {l:List V}:clr (jM nl l)=jM nl l:=by
 rcases kX nl l with h|⟨_,h⟩<;>rw [h]<;>rfl
theorem vz (a:E):clr (enc a)=enc a:=by cases a;rfl
theorem zns {nl:Bool} {l:List V}:(jM nl l).top=tops l:=by
 rcases kX nl l with h|⟨hl,h⟩<;>rw [h]
 ·rfl
 ·rw [hl];rfl
mutual
theorem top_enc:∀ (e:E),(enc e).top=0
 | .mk op pl s0 s1 s2 s3 text mn mx nl args=>by
  simp only [enc,V.top,tops,zns,tops_encs args];rfl
theorem tops_encs:∀ (l:List E),tops (encs l)=0
 | []=>rfl
 | e::l=>by simp [encs,tops,top_enc e,tops_encs l]
end
theorem w64 {x:Int} (h1:-9223372036854775808<=x) (h2:x<=9223372036854775807):IntKind.i64.wrap x=x:=by
 simp only [IntKind.wrap,IntKind.bits,IntKind.signed];simp;omega
theorem zir {i:Nat} (h:i<9223372036854775807):IntKind.i64.wrap ((i:Int)+1)=((i+1:Nat):Int):=by
 rw [w64 (by omega) (by omega)];omega
mutual
def Wf:E->Prop
 | .mk _ _ _ _ _ _ text _ _ _ args=>text.length<=maxLen/\args.length<=maxLen/\Wfs args
def Wfs:List E->Prop
 | []=>True
 | e::l=>Wf e/\Wfs l
end
theorem Wfs.mem {a:E}:∀ {l:List E},Wfs l->a∈l->Wf a
 | e::l,h,ha=>by
  rcases zAM.1 ha with rfl|ha
  ·exact h.1
  ·exact Wfs.mem h.2 ha
theorem maxLen_le:maxLen<=9223372036854775807:=by decide
mutual
def hg:E->Nat
 | .mk _ _ _ _ _ _ _ _ _ _ args=>hgs args+args.length+2
def hgs:List E->Nat
 | []=>0
 | e::l=>max (hg e) (hgs l)
end
theorem zeL {a:E}:∀ {l:List E},a∈l->hg a<=hgs l
 | e::l,h=>by
  simp only [hgs];rcases zAM.1 h with rfl|h
  ·exact zBX _ _
  ·exact zAP (zeL h) (zBo _ _)
end Go.Proofs.YtlnijcffanjieaaGreatDoor
namespace Go.Proofs.YtlnijcffanjieaaGreatDoor
set_option maxRecDepth 10000
open Go Go.Vm Go.Vm.Sx
theorem yq (nl:Bool) (l:List V):kOk (.sl 10) (jM nl l)=true:=by
 rcases kX nl l with h|⟨_,h⟩<;>rw [h]<;>rfl
theorem yr (nl:Bool) (l:List V):vL (jM nl l)=l:=by
 rcases kX nl l with h|⟨h0,h⟩<;>rw [h]
 ·rfl
 ·rw [h0];rfl
theorem zeM {l:List E} {i:Nat} {a:E} (h:l[i]?=some a):nth (encs l) i=some (enc a):=by rw [zw,encs_get,h];rfl
variable {gl:Gl} [NoU gl]
structure GL (gl:Gl):Prop where
 top:∀ g off v,gl g off=some v->v.top=0
 no:∀ f,[12,14,16,23,24,26,28,29,30,32,33,36,37,38,39,58].any (Nat.beq f)=false->∀ args,gl.hk f args=none
theorem lent63:wi Tryz.prog Tryz.f63.params.toList=some []:=by kernel_rfl
theorem lent64:wi Tryz.prog Tryz.f64.params.toList=some []:=by kernel_rfl
theorem lent10:wi Tryz.prog Tryz.f10.params.toList=some []:=by kernel_rfl
theorem zoN {x:V}:vy Tryz.prog [27] [.d x] 0:=by
 refine ⟨fun e=>?_,trivial⟩;rw [Tryz.underlying27];simp
theorem zqN {x y:V}:vy Tryz.prog [27,3] [.d x,.d y] 0:=by
 refine ⟨fun e=>?_,fun e=>?_,trivial⟩
 ·rw [Tryz.underlying27];simp
 ·rw [Tryz.underlying3];simp
def leanB:E->Bool
 | .mk op pl s0 s1 s2 s3 text mn mx _ _=>((pl == 0 && eqL text []) && (op == 2 || (s0 == 0 && (s1 == 0 && (s2 == 0 && s3 == 0))))) && (op == 7 || (mn == 0 && mx == 0))
def kindB:E->Bool
 | .mk op _ _ _ _ _ _ mn mx _ args =>
  if op == 1 then (args.length:Int) == 0 else if op == 2 then (args.length:Int) == 0 else if op == 5 then ltz 1 (args.length:Int) else if op == 6 then ltz 1 (args.length:Int) else
  if op == 7 then (args.length:Int) == 1 && ((mn == 0 && mx == -1 || mn == 1 && mx == -1) || mn == 0 && mx == 1) else false
theorem zrx (hgl:GL gl):∀ (e:E),Ev Tryz.prog gl 63 [.d (enc e)] [] (.bool (leanB e)) []
 | .mk op pl s0 s1 s2 s3 text mn mx nl args=>by
  refine kx (xs:=[enc (.mk op pl s0 s1 s2 s3 text mn mx nl args)]) hgl.top (hgl.no 63 rfl) tree63_ok Tryz.func63 lent63 zoN (by simp [tops,top_enc]) (N:=1) ?_
  simp only [tree63,enc];simp only [zZ,qf,ev_opn,qF,qO,qg,ki,yD,ks_nil,zAd,qG,zC,zJ,evB,evI,evS,zA,evC,zH,jP,zY,zng,ko,cmS,yq,leanB]
theorem zry (hgl:GL gl):∀ (e:E),Ev Tryz.prog gl 64 [.d (enc e)] [] (.bool (kindB e)) []
 | .mk op pl s0 s1 s2 s3 text mn mx nl args=>by
  refine kx (xs:=[enc (.mk op pl s0 s1 s2 s3 text mn mx nl args)]) hgl.top (hgl.no 64 rfl) tree64_ok Tryz.func64 lent64 zoN (by simp [tops,top_enc]) (N:=1) ?_
  simp only [tree64,enc,kindB];cases h1:op == 1 with
  | true=>simp only [jV,zZ,qf,ev_opn,qF,qO,qg,ki,yD,ks_nil,zAd,qG,zC,zJ,evB,evI,evL,zA,evC,zH,jP,zY,ko,yq,yr,h1,encs_length,if_true]
  | false =>
  cases h2:op == 2 with
  | true=>simp only [jV,ky,zZ,qf,ev_opn,qF,qO,qg,ki,yD,ks_nil,zAd,qG,zC,zJ,evB,evI,evL,zA,evC,zH,jP,zY,ko,yq,yr,h1,h2,encs_length,if_true,if_false,zAD]
  | false =>
  cases h3:op == 5 with
  | true=>simp only [jV,ky,zZ,qf,ev_opn,qF,qO,qg,ki,yD,ks_nil,zAd,qG,zC,zJ,evB,evI,evL,zA,evC,zH,jP,zY,kV,ko,yq,yr,h1,h2,h3,encs_length,if_true,if_false,zAD]
  | false =>
  cases h4:op == 6 with
  | true=>simp only [jV,ky,zZ,qf,ev_opn,qF,qO,qg,ki,yD,ks_nil,zAd,qG,zC,zJ,evB,evI,evL,zA,evC,zH,jP,zY,kV,ko,yq,yr,h1,h2,h3,h4,encs_length,if_true,if_false,zAD]
  | false =>
  cases h5:op == 7 with
  | true=>simp only [jV,ky,zZ,qf,ev_opn,qF,qO,qg,ki,yD,ks_nil,zAd,qG,zC,zJ,evB,evI,evL,zA,evC,zH,jP,zY,ko,yq,yr,h1,h2,h3,h4,h5,encs_length,if_true,if_false,zAD]
  | false=>simp only [ky,zZ,qf,ev_opn,qF,qO,qg,ki,yD,ks_nil,zAd,qG,zC,zJ,evB,evI,zA,evC,zH,jP,zY,ko,yq,h1,h2,h3,h4,h5,if_false,zAD]
mutual
def sizeM:E->Int->Int
 | .mk _ _ _ _ _ _ _ _ _ _ args,deep=>if ltz 5000 deep then 1048576 else sizeF (IntKind.i64.wrap (deep+1)) 1 args
def sizeF:Int->Int->List E->Int
 | _,n,[]=>n
 | d,n,a::l=>if ltz n 1048576 then sizeF d (IntKind.i64.wrap (n+sizeM a d)) l else n
end
theorem zp9 (hgl:GL gl):∀ (e:E),Wf e->∀ d,Ev Tryz.prog gl 10 [.d (enc e),.d (.int .i64 d)] [] (.int .i64 (sizeM e d)) []
 | .mk op pl s0 s1 s2 s3 text mn mx nl args,hw=>by
  intro d;have hml:=maxLen_le;have hlen:=hw.2.1;have hargs:∀ i a,args[i]?=some a->∀ d,phE Tryz.prog gl 10 [.d (enc a),.d (.int .i64 d)] []=some (.int .i64 (sizeM a d),[]):=fun i a h d =>
   have ha:=zAg h
   wI (zp9 hgl a (hw.2.2.mem ha) d)
  refine kx (xs:=[enc (.mk op pl s0 s1 s2 s3 text mn mx nl args),.int .i64 d]) hgl.top (hgl.no 10 rfl) tree10_ok Tryz.func10 lent10 zqN (by simp [tops,top_enc];rfl) (N:=args.length+1) ?_
  have key:∀ (l:List E) (i:Nat) (n:Int),args.drop i=l->∀ k,l.length<k->zcv (phE Tryz.prog gl) gl (args.length+1) lp10_1
    [.agg [.int .i64 op,.int .i64 pl,.int .u64 s0,.int .u64 s1,.int .u64 s2,.int .u64 s3,.str text,.int .i64 mn,.int .i64 mx,jM nl (encs args)],.int .i64 d,.int .i64 op,.int .i64 pl,.int .u64 s0,.int .u64 s1,.int .u64 s2,.int .u64 s3,.str text,.int .i64 mn,.int .i64 mx,jM nl (encs args)]
    k [.int .i64 n,.int .i64 (i:Int)]=some (0,[.int .i64 (sizeF (IntKind.i64.wrap (d+1)) n l)]):=by
   simp only [lp10_1];intro l
   induction l with
   | nil =>
    intro i n hd k hk;obtain ⟨k,rfl⟩:∃ k',k=k'+1:=⟨k - 1,by omega⟩
    refine vP ?_;have h1:=zfR (zc3 hd);simp only [ky,zZ,ev_esc,qf,qF,qO,zBu,zC,zJ,evB,evI,evL,zA,evC,zH,jP,zY,qS,zq,yr,h1,encs_length,sizeF]
   | cons a l ih =>
    intro i n hd k hk;obtain ⟨k,rfl⟩:∃ k',k=k'+1:=⟨k - 1,by omega⟩
    obtain ⟨ha,hi,hd'⟩:=zc2 hd;have h1:=zdv hi;cases h5:ltz n 1048576 with
    | false =>
     refine vP ?_;simp only [ky,zZ,ev_esc,qf,qF,qO,zBk,zC,zJ,evB,evI,evL,zA,evC,zH,jP,zY,qS,zq,yr,h1,h5,encs_length,sizeF,if_false,zAD]
    | true =>
    refine y4 (vs:=[.int .i64 (IntKind.i64.wrap (n+sizeM a (IntKind.i64.wrap (d+1)))),.int .i64 ((i+1:Nat):Int)]) ?_ (by simp only [sizeF,h5,if_true];exact ih (i+1) _ hd' k (by simp at hk;omega))
    have hc:=hargs i a ha;have h2:=zeM ha;have h4:=zir (i:=i) (by omega)
    obtain ⟨op',pl',s0',s1',s2',s3',text',mn',mx',nl',args'⟩:=a;simp only [enc] at hc h2;simp only [jV,zZ,jR,ev_opn,qj,qA,qF,qO,qg,ki,yD,ks_nil,zAd,qG,wL,zC,zJ,evB,evI,evL,zA,evC,zH,kG,evA,qp,zY,qS,biI,wF,joinL,sizesOk,yq,yr,h1,h2,h4,h5,hc,encs_length,zAs]
  simp only [tree10,enc,sizeM];cases hd:ltz 5000 d with
  | true=>simp only [jV,zZ,qf,ev_opn,qj,qF,qO,qg,ki,yD,ks_nil,zAd,qG,zC,zJ,evB,evI,zA,evC,zH,jP,zY,kV,yq,hd,if_true]
  | false =>
   simp only [ky,ev_opn,qj,vV,qF,qO,qg,ki,yD,ks_nil,zAd,qG,zC,zJ,evB,evI,zA,evC,zY,kV,yq,hd,if_false,zAD];exact zcw (key args 0 _ (by simp) _ (by omega))
termination_by e=>hg e
decreasing_by simp only [hg];have:=zeL ha;omega
mutual
def partsM:E->Int->Int->Int->Bool×Int×Int
 | .mk op pl s0 s1 s2 s3 text mn mx nl args,d,n,s =>
  if (ltz 65536 (IntKind.i64.wrap (n+1)) || ltz 4096 d) then (false,IntKind.i64.wrap (n+1),s) else
  if leanB (.mk op pl s0 s1 s2 s3 text mn mx nl args) then
   if kindB (.mk op pl s0 s1 s2 s3 text mn mx nl args) then partsF (IntKind.i64.wrap (d+1)) args (IntKind.i64.wrap (n+1)) (if op == 2 then IntKind.i64.wrap (s+1) else s)
   else (false,IntKind.i64.wrap (n+1),s)
  else (false,IntKind.i64.wrap (n+1),s)
def partsF:Int->List E->Int->Int->Bool×Int×Int
 | _,[],n,s=>(true,n,s)
 | d,a::l,n,s=>if (partsM a d n s).1 then partsF d l (partsM a d n s).2.1 (partsM a d n s).2.2 else partsM a d n s
end
def zis (e:E) (d:Int):List AV:=[.d (enc e),.d (.int .i64 d),.p 0 0,.p 1 0]
def zgY (n s:Int):List (List V×TypeId):=[([.int .i64 n],3),([.int .i64 s],3)]
def zeN (r:Bool×Int×Int):List (List V):=[[.int .i64 r.2.1],[.int .i64 r.2.2]]
theorem lent41:wi Tryz.prog Tryz.f41.params.toList=some [(3,[.int .i64]),(3,[.int .i64])]:=by kernel_rfl
theorem zqO {x y:V}:vy Tryz.prog [27,3,86,86] [.d x,.d y,.p 0 0,.p 1 0] 0:=by
 refine ⟨fun e=>?_,fun e=>?_,⟨3,Tryz.underlying86⟩,rfl,rfl,⟨3,Tryz.underlying86⟩,rfl,rfl,trivial⟩
 ·rw [Tryz.underlying27];simp
 ·rw [Tryz.underlying3];simp
theorem zqP (hgl:GL gl):∀ (e:E),Wf e->∀ d n s,Ev Tryz.prog gl 41 (zis e d) (zgY n s) (.bool (partsM e d n s).1) (zeN (partsM e d n s))
 | .mk op pl s0 s1 s2 s3 text mn mx nl args,hw=>by
  intro d n s;have hml:=maxLen_le;have hlen:=hw.2.1;have hargs:∀ i a,args[i]?=some a->∀ d n s,phE Tryz.prog gl 41 (zis a d) (zgY n s)=some (.bool (partsM a d n s).1,zeN (partsM a d n s)):=fun i a h d n s =>
   have ha:=zAg h
   wI (zqP hgl a (hw.2.2.mem ha) d n s)
  refine zks (N:=args.length+1) (zne hgl.top) (hgl.no 41 rfl) tree41_ok Tryz.func41 lent41 (avs:=zis _ d) (by rw [Tryz.params41];exact zqO) (fp:=zgY n s) (show FpOk [(3,[.int .i64]),(3,[.int .i64])] (zgY n s) from ⟨rfl,rfl,rfl,rfl,rfl,rfl,trivial⟩) (fun x hx=>?_) (show szOk (zgY n s) (zeN _) from ⟨rfl,rfl,trivial⟩) ?_
  ·simp only [zis,zAM,AV.d.injEq,reduceCtorEq,List.not_mem_nil,zBx] at hx;rcases hx with rfl|rfl
   ·exact top_enc _
   ·rfl
  have key:∀ (l:List E) (i:Nat) (n' s':Int),args.drop i=l->∀ k,l.length<k->zcv (phE Tryz.prog gl) gl (args.length+1) lp41_1
    [.agg [.int .i64 op,.int .i64 pl,.int .u64 s0,.int .u64 s1,.int .u64 s2,.int .u64 s3,.str text,.int .i64 mn,.int .i64 mx,jM nl (encs args)],.int .i64 d,.nilp,.nilp,.int .i64 n,.int .i64 s,.int .i64 op,.int .i64 pl,.int .u64 s0,.int .u64 s1,.int .u64 s2,.int .u64 s3,.str text,.int .i64 mn,.int .i64 mx,jM nl (encs args),.bool true,.bool true]
    k [.int .i64 (i:Int),.int .i64 n',.int .i64 s']=some (0,[.bool (partsF (IntKind.i64.wrap (d+1)) l n' s').1,.int .i64 (partsF (IntKind.i64.wrap (d+1)) l n' s').2.1,.int .i64 (partsF (IntKind.i64.wrap (d+1)) l n' s').2.2]):=by
   simp only [lp41_1];intro l
   induction l with
   | nil =>
    intro i n' s' hd k hk;obtain ⟨k,rfl⟩:∃ k',k=k'+1:=⟨k - 1,by omega⟩
    refine vP ?_;have h1:=zfR (zc3 hd);simp only [ky,zZ,ev_esc,qf,qF,qO,zC,zJ,evB,evI,evL,zA,evC,zH,jP,zY,qS,yr,h1,encs_length,partsF]
   | cons a l ih =>
    intro i n' s' hd k hk;obtain ⟨k,rfl⟩:∃ k',k=k'+1:=⟨k - 1,by omega⟩
    obtain ⟨ha,hi,hd'⟩:=zc2 hd;have h1:=zdv hi;have hc:=hargs i a ha (IntKind.i64.wrap (d+1)) n' s';have h2:=zeM ha;have h4:=zir (i:=i) (by omega)
    have hf:partsF (IntKind.i64.wrap (d+1)) (a::l) n' s'=if (partsM a (IntKind.i64.wrap (d+1)) n' s').1 then partsF (IntKind.i64.wrap (d+1)) l (partsM a (IntKind.i64.wrap (d+1)) n' s').2.1 (partsM a (IntKind.i64.wrap (d+1)) n' s').2.2 else partsM a (IntKind.i64.wrap (d+1)) n' s':=by simp only [partsF]
    rw [hf];cases hp:(partsM a (IntKind.i64.wrap (d+1)) n' s').1 with
    | false =>
     refine vP ?_;simp only [zAD,if_false,hp];rw [hp] at hc;obtain ⟨op',pl',s0',s1',s2',s3',text',mn',mx',nl',args'⟩:=a;simp only [enc,zis,zgY,zeN] at hc h2;simp only [jV,zZ,ev_esc,qf,jR,ev_opn,qj,qA,qF,qO,qg,ki,yD,kL,ks_nil,zAd,zAy,qG,wL,zC,zJ,xq,evB,evI,evL,zA,evC,zH,kG,evA,qp,jP,zY,jF,qS,biI,wF,joinL,sizesOk,zq,qN,zBO,zAS,List.length_nil,yq,yr,jN,h1,h2,hc,encs_length,zAs]
    | true =>
     simp only [if_true];refine y4 (vs:=[.int .i64 ((i+1:Nat):Int),.int .i64 (partsM a (IntKind.i64.wrap (d+1)) n' s').2.1,.int .i64 (partsM a (IntKind.i64.wrap (d+1)) n' s').2.2]) ?_ (ih (i+1) _ _ hd' k (by simp at hk;omega))
     rw [hp] at hc;obtain ⟨op',pl',s0',s1',s2',s3',text',mn',mx',nl',args'⟩:=a;simp only [enc,zis,zgY,zeN] at hc h2;simp only [jV,ky,zZ,jR,ev_opn,qj,qA,qF,qO,qg,ki,yD,kL,ks_nil,zAd,zAo,qG,wL,zC,zJ,xq,evB,evI,evL,zA,evC,zH,kG,evA,qp,zY,jF,qS,biI,wF,joinL,sizesOk,zq,qN,zBO,zAS,List.length_nil,yq,yr,jN,h1,h2,h4,hc,encs_length,zAs]
  have e71:=wI (zrx hgl (.mk op pl s0 s1 s2 s3 text mn mx nl args));have e72:=wI (zry hgl (.mk op pl s0 s1 s2 s3 text mn mx nl args));simp only [enc] at e71 e72;simp only [tree41,zis,zgY,zeN,zdD,lentV,zAW,zAi,holdA,enc,partsM];cases h1:(ltz 65536 (IntKind.i64.wrap (n+1)) || ltz 4096 d) with
  | true=>simp only [ky,zZ,qf,ev_opn,qj,qF,qO,qg,ki,yD,ks_nil,zAd,zAo,qG,zC,zJ,xq,evB,evI,zA,evC,zH,jP,zY,kV,biI,joinL,yq,h1,if_true]
  | false =>
  cases h2:leanB (.mk op pl s0 s1 s2 s3 text mn mx nl args) with
  | false=>simp only [jV,ky,zZ,qf,ev_opn,qj,qA,qF,qO,qg,ki,yD,kL,ks_nil,zAd,zAy,qG,zC,zJ,xq,evB,evI,zA,evC,zH,kG,evA,qp,jP,zY,jF,kV,biI,joinL,sizesOk,zq,qN,yq,jN,h1,e71,h2,if_false,zAD]
  | true =>
  cases h3:kindB (.mk op pl s0 s1 s2 s3 text mn mx nl args) with
  | false=>simp only [jV,zZ,qf,ev_opn,qj,qA,qF,qO,qg,ki,yD,kL,ks_nil,zAd,zAy,qG,zC,zJ,xq,evB,evI,zA,evC,zH,kG,evA,qp,jP,zY,jF,kV,biI,joinL,sizesOk,zq,qN,yq,jN,h1,e71,e72,h2,h3,if_true,if_false,zAD]
  | true =>
  cases hop:op == 2 with
  | true =>
   simp only [jV,ky,ev_opn,qj,qA,vV,qF,qO,qg,ki,yD,kL,ks_nil,zAd,zAo,zAy,qG,zC,zJ,xq,evB,evI,zA,evC,zH,kG,evA,qp,zY,jF,kV,ko,biI,joinL,sizesOk,zq,qN,yq,jN,h1,e71,e72,h2,h3,hop,if_true,if_false,zAD];exact zcw (key args 0 _ _ (by simp) _ (by omega))
  | false =>
   simp only [jV,ky,ev_opn,qj,qA,vV,qF,qO,qg,ki,yD,kL,ks_nil,zAd,zAo,zAy,qG,zC,zJ,xq,evB,evI,zA,evC,zH,kG,evA,qp,zY,jF,kV,ko,biI,joinL,sizesOk,zq,qN,yq,jN,h1,e71,e72,h2,h3,hop,if_true,if_false,zAD];exact zcw (key args 0 _ _ (by simp) _ (by omega))
termination_by e=>hg e
decreasing_by simp only [hg];have:=zeL ha;omega
end Go.Proofs.YtlnijcffanjieaaGreatDoor
namespace Go.Proofs.YtlnijcffanjieaaGreatDoor
set_option maxRecDepth 10000
open Go Go.Vm Go.Vm.Sx
abbrev St4:=Int×Int×Int×Int
def stV (s:St4):V:=.agg [.int .u64 s.1,.int .u64 s.2.1,.int .u64 s.2.2.1,.int .u64 s.2.2.2]
def r64 (x:Int):Prop:=0<=x/\x<18446744073709551616
def RgS (s:St4):Prop:=r64 s.1/\r64 s.2.1/\r64 s.2.2.1/\r64 s.2.2.2
instance (s:St4):Decidable (RgS s):=by unfold RgS r64;exact inferInstance
def zpo (s:St4) (i:Nat):Int:=if i=0 then s.1 else if i=1 then s.2.1 else if i=2 then s.2.2.1 else s.2.2.2
def zc5 (s:St4) (b:Nat):Bool:=(zpo s (b / 64)).toNat.testBit (b % 64)
def orI (a b:Int):Int:=((a.toNat ||| b.toNat:Nat):Int)
def zbP (s t:St4):St4:=(orI s.1 t.1,orI s.2.1 t.2.1,orI s.2.2.1 t.2.2.1,orI s.2.2.2 t.2.2.2)
theorem zkB {a b:Int} (ha:r64 a) (hb:r64 b):r64 (orI a b):=by
 obtain ⟨a0,a1⟩:=ha;obtain ⟨b0,b1⟩:=hb;have h1:a.toNat<2 ^ 64:=by omega
 have h2:b.toNat<2 ^ 64:=by omega
 have:=Nat.or_lt_two_pow h1 h2;unfold orI r64;omega
theorem zpp {s t:St4} (hs:RgS s) (ht:RgS t):RgS (zbP s t):=⟨zkB hs.1 ht.1,zkB hs.2.1 ht.2.1,zkB hs.2.2.1 ht.2.2.1,zkB hs.2.2.2 ht.2.2.2⟩
theorem u8w {x:Int} (h:0<=x) (h':x<256):IntKind.u8.wrap x=x:=by
 simp only [IntKind.wrap,IntKind.bits,IntKind.signed];simp;omega
theorem zqQ {x:Nat} (h:x<2 ^ 64):IntKind.u64.wrap (x:Int)=(x:Int):=by
 simp only [IntKind.wrap,IntKind.bits,IntKind.signed];simp;omega
theorem zrz {b:Nat} (h:b<256):biI .quo .u8 (b:Int) 64=((b / 64:Nat):Int):=by
 simp only [biI];rw [show (b:Int).tdiv 64=((b / 64:Nat):Int) by rw [Int.tdiv_eq_ediv_of_nonneg (by omega)];omega]
 exact u8w (by omega) (by omega)
theorem zrA {b:Nat}:biI .rem .u8 (b:Int) 64=((b % 64:Nat):Int):=by
 simp only [biI];rw [Int.tmod_eq_emod_of_nonneg (by omega)]
 omega
theorem zdS {a:Nat} (ha:a<2 ^ 64):(BitVec.ofInt 64 (a:Int)).toNat=a:=by
 simp [zBc ha]
theorem zqR {a b:Nat} (ha:a<2 ^ 64) (hb:b<2 ^ 64):biI .and .u64 (a:Int) (b:Int)=((a &&& b:Nat):Int):=by
 have h0:((BitVec.ofInt 64 (a:Int) &&& BitVec.ofInt 64 (b:Int)).toNat)=a &&& b:=by
  rw [BitVec.toNat_and,zdS ha,zdS hb]
 have h:((BitVec.ofInt IntKind.u64.bits (a:Int) &&& BitVec.ofInt IntKind.u64.bits (b:Int)).toNat)=a &&& b:=h0;simp only [biI];rw [h,zqQ (Nat.lt_of_le_of_lt Nat.and_le_left ha)]
theorem zrB {a b:Nat} (ha:a<2 ^ 64) (hb:b<2 ^ 64):biI .or .u64 (a:Int) (b:Int)=((a ||| b:Nat):Int):=by
 have h0:((BitVec.ofInt 64 (a:Int) ||| BitVec.ofInt 64 (b:Int)).toNat)=a ||| b:=by
  rw [BitVec.toNat_or,zdS ha,zdS hb]
 have h:((BitVec.ofInt IntKind.u64.bits (a:Int) ||| BitVec.ofInt IntKind.u64.bits (b:Int)).toNat)=a ||| b:=h0
 simp only [biI];rw [h,zqQ (Nat.or_lt_two_pow ha hb)]
theorem zkC {a b:Int} (ha:r64 a) (hb:r64 b):biI .or .u64 a b=orI a b:=by
 obtain ⟨a0,a1⟩:=ha;obtain ⟨b0,b1⟩:=hb;have:=zrB (a:=a.toNat) (b:=b.toNat) (by omega) (by omega)
 rw [Int.toNat_of_nonneg a0,Int.toNat_of_nonneg b0] at this;exact this
theorem zqS {x:Int} {k:Nat} (h0:r64 x) (hk:k<64):biI .shr .u64 x (k:Int)=((x.toNat >>> k:Nat):Int):=by
 obtain ⟨a0,a1⟩:=h0;obtain ⟨n,rfl⟩:∃ n:Nat,x=(n:Int):=⟨x.toNat,by omega⟩
 simp only [biI];have:min ((k:Int).toNat) IntKind.u64.bits=k:=by
  show min ((k:Int).toNat) 64=k;omega
 rw [this,Nat.shiftRight_eq_div_pow,zAs];rw [Int.fdiv_eq_ediv_of_nonneg _ (by exact Int.le_of_lt (Int.pow_pos (by decide)))]
 push_cast
 rfl
theorem zgZ {x:Int} {k:Nat} (h0:r64 x) (hk:k<64):(biI .and .u64 (biI .shr .u64 x (k:Int)) 1 == 1)=x.toNat.testBit k:=by
 have h1:x.toNat<2 ^ 64:=by obtain ⟨a0,a1⟩:=h0;omega
 rw [zqS h0 hk,show (1:Int)=((1:Nat):Int) from rfl,zqR (Nat.lt_of_le_of_lt (Nat.shiftRight_le _ _) h1) (by decide),Nat.and_one_is_mod]
 rw [Nat.testBit_eq_decide_div_mod_eq,Nat.shiftRight_eq_div_pow];generalize x.toNat / 2 ^ k % 2=m
 by_cases e:m=1
 ·subst e;rfl
 ·simp only [e,decide_false];exact beq_false_of_ne (by omega)
variable {gl:Gl} [NoU gl]
theorem lent17:wi Tryz.prog Tryz.f17.params.toList=some []:=by kernel_rfl
theorem zqT {x y:V}:vy Tryz.prog [24,5] [.d x,.d y] 0:=by
 refine ⟨fun e=>?_,fun e=>?_,trivial⟩
 ·rw [Tryz.underlying24];simp
 ·rw [Tryz.underlying5];simp
theorem zrC (hgl:GL gl) (s:St4) (hs:RgS s) (b:Nat) (hb:b<256):Ev Tryz.prog gl 17 [.d (stV s),.d (.int .u8 b)] [] (.bool (zc5 s b)) []:=by
 refine kx (xs:=[stV s,.int .u8 b]) hgl.top (hgl.no 17 rfl) tree17_ok Tryz.func17 lent17 zqT (by simp [tops,V.top,stV]) (N:=1) ?_
 have hm:b % 64<64:=Nat.mod_lt _ (by decide)
 have hge:ltz ((b % 64:Nat):Int) 0=false:=zaC (by omega)
 have hge':lez 0 ((b % 64:Nat):Int)=true:=zdu (by omega)
 obtain ⟨r0,r1,r2,r3⟩:=hs;have e0:=zgZ r0 hm;have e1:=zgZ r1 hm;have e2:=zgZ r2 hm;have e3:=zgZ r3 hm;simp only [biI] at e0 e1 e2 e3;have q:=zrz hb;have rm:=zrA (b:=b);simp only [biI] at q rm;have hd:b / 64=0\/b / 64=1\/b / 64=2\/b / 64=3:=by omega
 have hb0:∀ n:Nat,b / 64=n->IntKind.u8.wrap ((b:Int).tdiv 64)=(n:Int):=fun n h=>by rw [q,h]
 simp only [tree17,stV,zc5,zpo];rcases hd with h|h|h|h<;>simp only [h,Nat.reduceEqDiff,if_true,if_false,Nat.succ_ne_zero]
 ·have q':IntKind.u8.wrap ((b:Int).tdiv 64)=0:=hb0 0 h;simp only [jV,zaq,zZ,qf,ev_opn,qj,qF,qO,qg,ki,ks_nil,zAd,qG,zC,zJ,evB,evI,zA,evC,zH,jP,zY,za2,ko,biI,q',rm,hge',e0,Int.reduceBEq]
 ·have q':IntKind.u8.wrap ((b:Int).tdiv 64)=1:=hb0 1 h;simp only [jV,ky,zaq,zZ,qf,ev_opn,qj,qF,qO,qg,ki,ks_nil,zAd,qG,zC,zJ,evB,evI,zA,evC,zH,jP,zY,za2,ko,biI,q',rm,hge',e1,Int.reduceBEq]
 ·have q':IntKind.u8.wrap ((b:Int).tdiv 64)=2:=hb0 2 h;simp only [jV,ky,zaq,zZ,qf,ev_opn,qj,qF,qO,qg,ki,ks_nil,zAd,qG,zC,zJ,evB,evI,zA,evC,zH,jP,zY,za2,ko,biI,q',rm,hge',e2,Int.reduceBEq]
 ·have q':IntKind.u8.wrap ((b:Int).tdiv 64)=3:=hb0 3 h;simp only [jV,ky,zaq,zZ,qf,ev_opn,qj,qF,qO,qg,ki,ks_nil,zAd,qG,zC,zJ,evB,evI,zA,evC,zH,jP,zY,za2,ko,biI,q',rm,hge',e3,Int.reduceBEq]
theorem lent226:wi Tryz.prog Tryz.f226.params.toList=some []:=by kernel_rfl
theorem zqU {x y:V}:vy Tryz.prog [24,24] [.d x,.d y] 0:=by
 refine ⟨fun e=>?_,fun e=>?_,trivial⟩
 ·rw [Tryz.underlying24];simp
 ·rw [Tryz.underlying24];simp
theorem w1:IntKind.i64.wrap (0+1)=1:=by decide
theorem w2:IntKind.i64.wrap (1+1)=2:=by decide
theorem w3:IntKind.i64.wrap (2+1)=3:=by decide
theorem w4:IntKind.i64.wrap (3+1)=4:=by decide
theorem l04:ltz 0 4=true:=rfl
theorem l14:ltz 1 4=true:=rfl
theorem l24:ltz 2 4=true:=rfl
theorem l34:ltz 3 4=true:=rfl
theorem l44:ltz 4 4=false:=rfl
theorem zqV (hgl:GL gl) (s t:St4) (hs:RgS s) (ht:RgS t):Ev Tryz.prog gl 226 [.d (stV s),.d (stV t)] [] (stV (zbP s t)) []:=by
 refine kx (xs:=[stV s,stV t]) hgl.top (hgl.no 226 rfl) tree226_ok Tryz.func226 lent226 zqU (by simp [tops,V.top,stV]) (N:=5) ?_
 obtain ⟨a0,a1,a2,a3⟩:=hs;obtain ⟨b0,b1,b2,b3⟩:=ht;have o0:=zkC a0 b0;have o1:=zkC a1 b1;have o2:=zkC a2 b2;have o3:=zkC a3 b3;simp only [biI] at o0 o1 o2 o3;simp only [tree226,stV,zbP];simp only [ev_opn,vV,qF,qO,qg,ki,ks_nil,zAd,qG,zC,zJ,evI,zA,evC,zq];refine zcw ?_;refine y4 (by simp only [lp226_1];simp only [jV,zZ,qF,qO,zC,zJ,evB,evI,zA,evC,zY,qS,ko,biI,l04,w1,o0,Int.reduceBEq];rfl) ?_
 refine y4 (by simp only [lp226_1];simp only [jV,ky,zZ,qF,qO,zC,zJ,evB,evI,zA,evC,zY,qS,ko,biI,l14,w2,o1,Int.reduceBEq];rfl) ?_
 refine y4 (by simp only [lp226_1];simp only [jV,ky,zZ,qF,qO,zC,zJ,evB,evI,zA,evC,zY,qS,ko,biI,l24,w3,o2,Int.reduceBEq];rfl) ?_
 refine y4 (by simp only [lp226_1];simp only [jV,ky,zZ,qF,qO,zC,zJ,evB,evI,zA,evC,zY,qS,ko,biI,l34,w4,o3,Int.reduceBEq];rfl) ?_
 refine vP (by simp only [lp226_1];simp only [ky,zZ,ev_esc,qf,qF,qO,zC,zJ,evB,evI,zA,evC,zH,jP,zY,qS,zq,l44])
def st0:St4:=(0,0,0,0)
theorem rg0:RgS st0:=⟨⟨by decide,by decide⟩,⟨by decide,by decide⟩,⟨by decide,by decide⟩,⟨by decide,by decide⟩⟩
end Go.Proofs.YtlnijcffanjieaaGreatDoor
namespace Go.Proofs.YtlnijcffanjieaaGreatDoor
set_option maxRecDepth 100000
open Go Go.Vm
variable {gl:Gl}
structure GW (gl:Gl):Prop where
 uq:gl.uq=uqw
 hk2:∀ n f args H,gl.hk2 n f args H=none
 has:∀ s b,RgS s->b<256->gl.hk 17 [stV s,.int .u8 (b:Nat)]=some (.bool (zc5 s b))
 uni:∀ s t,RgS s->RgS t->gl.hk 226 [stV s,stV t]=some (stV (zbP s t))
 hk:∀ f args,(([44,45,67,98]++(List.range 22).map (·+270)).any (Nat.beq f))=true->gl.hk f args=none
theorem fo125_0:qR Tryz.prog 125 0=some 0:=by kernel_rfl
theorem fo125_1:qR Tryz.prog 125 1=some 4:=by kernel_rfl
theorem fo133_0:qR Tryz.prog 133 0=some 0:=by kernel_rfl
theorem fo133_1:qR Tryz.prog 133 1=some 1:=by kernel_rfl
theorem fo133_2:qR Tryz.prog 133 2=some 2:=by kernel_rfl
theorem fo133_3:qR Tryz.prog 133 3=some 3:=by kernel_rfl
theorem fo137_0:qR Tryz.prog 137 0=some 0:=by kernel_rfl
theorem fo137_1:qR Tryz.prog 137 1=some 1:=by kernel_rfl
theorem fo137_2:qR Tryz.prog 137 2=some 2:=by kernel_rfl
theorem fo140_0:qR Tryz.prog 140 0=some 0:=by kernel_rfl
theorem fo140_1:qR Tryz.prog 140 1=some 1:=by kernel_rfl
theorem fo140_2:qR Tryz.prog 140 2=some 2:=by kernel_rfl
theorem ag4:km Tryz.prog 4=some false:=by kernel_rfl
theorem ag24:km Tryz.prog 24=some true:=by kernel_rfl
theorem ag93:km Tryz.prog 93=some false:=by kernel_rfl
theorem ag135:km Tryz.prog 135=some false:=by kernel_rfl
theorem sz4:qx Tryz.prog 4=some 1:=by kernel_rfl
theorem sz24:qx Tryz.prog 24=some 4:=by kernel_rfl
theorem sz93:qx Tryz.prog 93=some 1:=by kernel_rfl
noncomputable def wM (gl:Gl) (n:Nat) (nm:String) (v:V) (args:List V) (H:Hp):Option (OR×Hp):=Cx.callV ⟨Tryz.prog,gl.g,callA Tryz.prog gl n,gl.uq⟩ (.fn (.method nm) [] []) (v::args) H
section
variable {cx:Cx} {takes:List Tmp} {dst:Option Tmp} {type:TypeId} {pos:String} {after:Array Edge} {guard:Option (Nat×Bool)} {env:List V} {H:Hp} {lk:List (Nat×Nat)} {df:List (V×List V)}
def zoO (cx:Cx) (m:String) (H:Hp) (lk:List (Nat×Nat)) (df:List (V×List V)) (env:List V):Option V->Option (List V)->Option (OR×St)
 | some r,some args=>qo lk df env (cx.callV (.fn (.method m) [] []) (r::args) H)
 | _,_=>none
theorem qk {r:Operand} {m:String} {args:Array Operand} {ts:Array TypeId}:cx.op takes ⟨dst,.call ⟨.invoke r m,args,ts⟩,type,pos,after,guard⟩ env H lk df=zoO cx m H lk df env (peek env r) (peeks env args.toList):=by
 simp only [Cx.op,zoO];cases peek env r with
 | none=>rfl
 | some x =>
  cases peeks env args.toList with
  | none=>rfl
  | some l =>
   simp only [qo];cases cx.callV (.fn (.method m) [] []) (x::l) H with
   | none=>rfl
   | some q=>obtain ⟨a,b⟩:=q;rfl
theorem zlK {m:String} {v:V} {args:List V}:zoO cx m H lk df env (some v) (some args)=qo lk df env (cx.callV (.fn (.method m) [] []) (v::args) H):=rfl
end
theorem jj {n:Nat} {nm:String} {t f:Nat} {v u:V} {args:List V} {H H':Hp} {r:V} {fn:Func} {body:Code} (hm:jm Tryz.prog t v nm=some (f,u)) (hf:Tryz.prog.funcs[f]?=some fn) (hb:fn.body=some body) (hargs:(u::args).map clr=u::args)
  (hc:callA Tryz.prog gl n f (u::args) H=some (.ret r,H')):wM gl n nm (.ifc t v) args H=some (.val r,H'):=by
 unfold wM;simp only [Cx.callV,zAT,hm,fL_eq,hargs];exact qb hf hb hc
theorem y6 {n:Nat} {f:FuncId} {args:List V} {H:Hp} {v:V} (h:gl.hk f args=some v):callA Tryz.prog gl (n+1) f args H=some (.ret v,H):=by
 obtain ⟨bs,es⟩:=H;simp only [callA,h]
theorem zT {bs:List Blk} {es:List (Nat×Nat)} {n0 t:Nat} (h:n0=bs.length) (ht:t<=n0):jr n0 es t ⟨bs,[]⟩=⟨bs,es⟩:=by
 subst h;have:=ja (bs:=bs) (ls:=[]) (es:=es) ht
 rwa [zBG] at this
theorem qd {bs:List Blk} {es:List (Nat×Nat)} {x:Blk}:Hp.push ⟨bs,es⟩ x=⟨bs++[x],es⟩:=rfl
theorem jO {a b:List Blk} {es:List (Nat×Nat)} {x:Blk}:Hp.push ⟨a++b,es⟩ x=⟨a++(b++[x]),es⟩:=by rw [qd,zAb]
theorem zrD (hg:GW gl) {n:Nat} {bs:List Blk} {es:List (Nat×Nat)} {p:Nat} {cs:List V} {ty:TypeId} {m:Bool} (hb:nth bs p=some (.cells cs ty)) (hc:nth cs 4=some (.bool m)) :
  callA Tryz.prog gl (n+1) 271 [.ptr p 0] ⟨bs,es⟩=some (.ret (.bool m),⟨bs,es⟩):=by
 have hl:zM Tryz.prog ⟨bs,[]⟩ gl.g 4 (.ptr p 4)=some (.bool m):=qc ag4 hb hc;refine qT (hg.hk _ _ (by decide)) (fun H=>hg.hk2 _ _ _ _) Tryz.func271 rfl ?_
 simp only [Tryz.f271,ze];refine zc (tk:=[]) (by kernel_rfl) ?_
 simp only [zl,go_os_nil,ze,zd,zo,ofVal,zf,opQ_val,zr,zAB,zAS,List.length_nil,zAU,zAV,zAT,zAG,zAH,List.replicate,Nat.reduceSub]
 refine zc (tk:=[]) (by kernel_rfl) ?_
 simp only [zl,go_os_nil,zj,zn,zd,zy,zg,peek,zh,zt,zb,zf,opQ_val,zr,zk,zu,zAC,zAB,derefA,zm,zP,zAU,zi,zp,zAG,zAH,fo125_1,hl]
 simp only [go_ret,zB,Vm.Fin]
 exact ⟨trivial,[.bool m],rfl,rfl,(zT rfl (zAY _)).symm⟩
theorem zrE (hg:GW gl) {n:Nat} {bs:List Blk} {es:List (Nat×Nat)} {p:Nat} {cs:List V} {ty:TypeId} {m:Bool} (hb:nth bs p=some (.cells cs ty)) (hc:nth cs 2=some (.bool m)) :
  callA Tryz.prog gl (n+1) 278 [.ptr p 0] ⟨bs,es⟩=some (.ret (.bool m),⟨bs,es⟩):=by
 have hl:zM Tryz.prog ⟨bs,[]⟩ gl.g 4 (.ptr p 2)=some (.bool m):=qc ag4 hb hc;refine qT (hg.hk _ _ (by decide)) (fun H=>hg.hk2 _ _ _ _) Tryz.func278 rfl ?_
 simp only [Tryz.f278,ze];refine zc (tk:=[]) (by kernel_rfl) ?_
 simp only [zl,go_os_nil,ze,zd,zo,ofVal,zf,opQ_val,zr,zAB,zAS,List.length_nil,zAU,zAV,zAT,zAG,zAH,List.replicate,Nat.reduceSub]
 refine zc (tk:=[]) (by kernel_rfl) ?_
 simp only [zl,go_os_nil,zj,zn,zd,zy,zg,peek,zh,zt,zb,zf,opQ_val,zr,zk,zu,zAC,zAB,derefA,zm,zP,zAU,zi,zp,zAG,zAH,fo133_2,hl]
 simp only [go_ret,zB,Vm.Fin]
 exact ⟨trivial,[.bool m],rfl,rfl,(zT rfl (zAY _)).symm⟩
theorem zrF (hg:GW gl) {n:Nat} {bs:List Blk} {es:List (Nat×Nat)} {p:Nat} {cs:List V} {ty:TypeId} {m:Bool} (hb:nth bs p=some (.cells cs ty)) (hc:nth cs 3=some (.bool m)) :
  callA Tryz.prog gl (n+1) 279 [.ptr p 0] ⟨bs,es⟩=some (.ret (.bool m),⟨bs,es⟩):=by
 have hl:zM Tryz.prog ⟨bs,[]⟩ gl.g 4 (.ptr p 3)=some (.bool m):=qc ag4 hb hc;refine qT (hg.hk _ _ (by decide)) (fun H=>hg.hk2 _ _ _ _) Tryz.func279 rfl ?_
 simp only [Tryz.f279,ze];refine zc (tk:=[]) (by kernel_rfl) ?_
 simp only [zl,go_os_nil,ze,zd,zo,ofVal,zf,opQ_val,zr,zAB,zAS,List.length_nil,zAU,zAV,zAT,zAG,zAH,List.replicate,Nat.reduceSub]
 refine zc (tk:=[]) (by kernel_rfl) ?_
 simp only [zl,go_os_nil,zj,zn,zd,zy,zg,peek,zh,zt,zb,zf,opQ_val,zr,zk,zu,zAC,zAB,derefA,zm,zP,zAU,zi,zp,zAG,zAH,fo133_3,hl]
 simp only [go_ret,zB,Vm.Fin]
 exact ⟨trivial,[.bool m],rfl,rfl,(zT rfl (zAY _)).symm⟩
theorem zrG (hg:GW gl) {n:Nat} {bs:List Blk} {es:List (Nat×Nat)} {p:Nat} {cs:List V} {ty:TypeId} {m:Bool} (hb:nth bs p=some (.cells cs ty)) (hc:nth cs 1=some (.bool m)) :
  callA Tryz.prog gl (n+1) 283 [.ptr p 0] ⟨bs,es⟩=some (.ret (.bool m),⟨bs,es⟩):=by
 have hl:zM Tryz.prog ⟨bs,[]⟩ gl.g 4 (.ptr p 1)=some (.bool m):=qc ag4 hb hc;refine qT (hg.hk _ _ (by decide)) (fun H=>hg.hk2 _ _ _ _) Tryz.func283 rfl ?_
 simp only [Tryz.f283,ze];refine zc (tk:=[]) (by kernel_rfl) ?_
 simp only [zl,go_os_nil,ze,zd,zo,ofVal,zf,opQ_val,zr,zAB,zAS,List.length_nil,zAU,zAV,zAT,zAG,zAH,List.replicate,Nat.reduceSub]
 refine zc (tk:=[]) (by kernel_rfl) ?_
 simp only [zl,go_os_nil,zj,zn,zd,zy,zg,peek,zh,zt,zb,zf,opQ_val,zr,zk,zu,zAC,zAB,derefA,zm,zP,zAU,zi,zp,zAG,zAH,fo137_1,hl]
 simp only [go_ret,zB,Vm.Fin]
 exact ⟨trivial,[.bool m],rfl,rfl,(zT rfl (zAY _)).symm⟩
theorem zrH (hg:GW gl) {n:Nat} {bs:List Blk} {es:List (Nat×Nat)} {p:Nat} {cs:List V} {ty:TypeId} {m:Bool} (hb:nth bs p=some (.cells cs ty)) (hc:nth cs 2=some (.bool m)) :
  callA Tryz.prog gl (n+1) 284 [.ptr p 0] ⟨bs,es⟩=some (.ret (.bool m),⟨bs,es⟩):=by
 have hl:zM Tryz.prog ⟨bs,[]⟩ gl.g 4 (.ptr p 2)=some (.bool m):=qc ag4 hb hc;refine qT (hg.hk _ _ (by decide)) (fun H=>hg.hk2 _ _ _ _) Tryz.func284 rfl ?_
 simp only [Tryz.f284,ze];refine zc (tk:=[]) (by kernel_rfl) ?_
 simp only [zl,go_os_nil,ze,zd,zo,ofVal,zf,opQ_val,zr,zAB,zAS,List.length_nil,zAU,zAV,zAT,zAG,zAH,List.replicate,Nat.reduceSub]
 refine zc (tk:=[]) (by kernel_rfl) ?_
 simp only [zl,go_os_nil,zj,zn,zd,zy,zg,peek,zh,zt,zb,zf,opQ_val,zr,zk,zu,zAC,zAB,derefA,zm,zP,zAU,zi,zp,zAG,zAH,fo137_2,hl]
 simp only [go_ret,zB,Vm.Fin]
 exact ⟨trivial,[.bool m],rfl,rfl,(zT rfl (zAY _)).symm⟩
theorem zrI (hg:GW gl) {n:Nat} {bs:List Blk} {es:List (Nat×Nat)} {p:Nat} {cs:List V} {ty:TypeId} {m:Bool} (hb:nth bs p=some (.cells cs ty)) (hc:nth cs 2=some (.bool m)) :
  callA Tryz.prog gl (n+1) 287 [.ptr p 0] ⟨bs,es⟩=some (.ret (.bool m),⟨bs,es⟩):=by
 have hl:zM Tryz.prog ⟨bs,[]⟩ gl.g 4 (.ptr p 2)=some (.bool m):=qc ag4 hb hc;refine qT (hg.hk _ _ (by decide)) (fun H=>hg.hk2 _ _ _ _) Tryz.func287 rfl ?_
 simp only [Tryz.f287,ze];refine zc (tk:=[]) (by kernel_rfl) ?_
 simp only [zl,go_os_nil,ze,zd,zo,ofVal,zf,opQ_val,zr,zAB,zAS,List.length_nil,zAU,zAV,zAT,zAG,zAH,List.replicate,Nat.reduceSub]
 refine zc (tk:=[]) (by kernel_rfl) ?_
 simp only [zl,go_os_nil,zj,zn,zd,zy,zg,peek,zh,zt,zb,zf,opQ_val,zr,zk,zu,zAC,zAB,derefA,zm,zP,zAU,zi,zp,zAG,zAH,fo140_2,hl]
 simp only [go_ret,zB,Vm.Fin]
 exact ⟨trivial,[.bool m],rfl,rfl,(zT rfl (zAY _)).symm⟩
theorem zrJ (hg:GW gl) {n:Nat} {bs:List Blk} {es:List (Nat×Nat)} {p:Nat} :
  callA Tryz.prog gl (n+1) 270 [.ptr p 0] ⟨bs,es⟩=some (.ret (.bool false),⟨bs,es⟩):=by
 refine qT (hg.hk _ _ (by decide)) (fun H=>hg.hk2 _ _ _ _) Tryz.func270 rfl ?_
 simp only [Tryz.f270,ze];refine zc (tk:=[]) (by kernel_rfl) ?_
 simp only [zl,go_os_nil,ze,zd,zo,ofVal,zf,opQ_val,zr,zAB,zAS,List.length_nil,zAU,zAV,zAT,zAG,zAH,List.replicate,Nat.reduceSub]
 refine zc (tk:=[]) (by kernel_rfl) ?_
 simp only [zl,go_os_nil,zd,zo,ofVal,zf,opQ_val,zr,zAB,zAG,zAH]
 simp only [go_ret,zB,Vm.Fin]
 exact ⟨trivial,[.bool false],rfl,rfl,(zT rfl (zAY _)).symm⟩
theorem zrK (hg:GW gl) {n:Nat} {bs:List Blk} {es:List (Nat×Nat)} {_bg:Bool} {_c:Int} :
  callA Tryz.prog gl (n+1) 274 [.agg []] ⟨bs,es⟩=some (.ret (.bool true),⟨bs,es⟩):=by
 refine qT (hg.hk _ _ (by decide)) (fun H=>hg.hk2 _ _ _ _) Tryz.func274 rfl ?_
 simp only [Tryz.f274,ze];refine zc (tk:=[]) (by kernel_rfl) ?_
 simp only [zl,go_os_nil,ze,q5,zd,zh,zo,ofVal,zW,zf,opQ_val,zr,zAB,qd,zAS,List.length_nil,zAU,zAV,zAT,zi,zAG,zAH,List.replicate,Nat.reduceSub,jf (show okC (.agg [])=true from rfl)]
 refine zc (tk:=[]) (by kernel_rfl) ?_
 simp only [zl,go_os_nil,zd,zo,ofVal,zf,opQ_val,zr,zAB,zAG,zAH]
 simp only [go_ret,zB,Vm.Fin]
 exact ⟨trivial,[.bool true],rfl,rfl,(ja (ls:=[_]) (zAY _)).symm⟩
theorem zrL (hg:GW gl) {n:Nat} {bs:List Blk} {es:List (Nat×Nat)} {_bg:Bool} {_c:Int} :
  callA Tryz.prog gl (n+1) 275 [.agg []] ⟨bs,es⟩=some (.ret (.bool false),⟨bs,es⟩):=by
 refine qT (hg.hk _ _ (by decide)) (fun H=>hg.hk2 _ _ _ _) Tryz.func275 rfl ?_
 simp only [Tryz.f275,ze];refine zc (tk:=[]) (by kernel_rfl) ?_
 simp only [zl,go_os_nil,ze,q5,zd,zh,zo,ofVal,zW,zf,opQ_val,zr,zAB,qd,zAS,List.length_nil,zAU,zAV,zAT,zi,zAG,zAH,List.replicate,Nat.reduceSub,jf (show okC (.agg [])=true from rfl)]
 refine zc (tk:=[]) (by kernel_rfl) ?_
 simp only [zl,go_os_nil,zd,zo,ofVal,zf,opQ_val,zr,zAB,zAG,zAH]
 simp only [go_ret,zB,Vm.Fin]
 exact ⟨trivial,[.bool false],rfl,rfl,(ja (ls:=[_]) (zAY _)).symm⟩
theorem zrM (hg:GW gl) {n:Nat} {bs:List Blk} {es:List (Nat×Nat)} {bg:Bool} {c:Int} :
  callA Tryz.prog gl (n+1) 277 [.agg [],.bool bg,.int .u8 c] ⟨bs,es⟩=some (.ret (.bool false),⟨bs,es⟩):=by
 refine qT (hg.hk _ _ (by decide)) (fun H=>hg.hk2 _ _ _ _) Tryz.func277 rfl ?_
 simp only [Tryz.f277,ze];refine zc (tk:=[]) (by kernel_rfl) ?_
 simp only [zl,go_os_nil,ze,q5,zd,zh,zo,ofVal,zW,zf,opQ_val,zr,zAB,qd,zAS,List.length_nil,zAU,Nat.reduceAdd,zAV,zAT,zi,zAG,zAH,List.replicate,Nat.reduceSub,jf (show okC (.agg [])=true from rfl)]
 refine zc (tk:=[]) (by kernel_rfl) ?_
 simp only [zl,go_os_nil,zd,zo,ofVal,zf,opQ_val,zr,zAB,zAG,zAH]
 simp only [go_ret,zB,Vm.Fin]
 exact ⟨trivial,[.bool false],rfl,rfl,(ja (ls:=[_]) (zAY _)).symm⟩
end Go.Proofs.YtlnijcffanjieaaGreatDoor
namespace Go.Proofs.YtlnijcffanjieaaGreatDoor
set_option maxRecDepth 100000
open Go Go.Vm
variable {gl:Gl}
def yG (s:St4) (m:Bool):List V:=[.int .u64 s.1,.int .u64 s.2.1,.int .u64 s.2.2.1,.int .u64 s.2.2.2,.bool m]
theorem jk {α:Type} {l:List α} {i:Nat} {v:α} (h:i<l.length):nth (l.set i v) i=some v:=by rw [zw,zBQ h]
theorem qy {α:Type} {l:List α} {i j:Nat} {v:α} (h:i≠j):nth (l.set i v) j=nth l j:=by rw [zw,zw,zBL h]
theorem zbq {H:Hp} {b:Nat} {m:Bool}:H.edge b (.bool m)=H:=vK rfl
theorem zrN (hg:GW gl) {n:Nat} {bs:List Blk} {es:List (Nat×Nat)} {p c:Nat} {s:St4} {m bg:Bool} (hs:RgS s) (hc:c<256) (hb:nth bs p=some (.cells (yG s m) 125)) :
  callA Tryz.prog gl (n+2) 273 [.ptr p 0,.bool bg,.int .u8 (c:Nat)] ⟨bs,es⟩=some (.ret (.bool (bg && zc5 s c)),⟨bs.set p (.cells (yG s (bg && zc5 s c)) 125),es⟩):=by
 have hlt:p<bs.length:=yp (H:=⟨bs,[]⟩) hb;have hb':Hp.get ⟨bs,[]⟩ p=some (.cells (yG s m) 125):=hb;have hl:zM Tryz.prog ⟨bs,[]⟩ gl.g 24 (.ptr p 0)=some (stV s):=yi ag24 sz24 hb' (show 0+4<=(yG s m).length by simp [yG])
 have hcl:Cx.callF ⟨Tryz.prog,gl.g,callA Tryz.prog gl (n+1),gl.uq⟩ 17 [stV s,.int .u8 (c:Nat)] ⟨bs,[]⟩=some (.val (.bool (zc5 s c)),⟨bs,[]⟩):=qb Tryz.func17 rfl (y6 (hg.has s c hs hc));have wV:clr (stV s)=stV s:=rfl;refine qT (hg.hk _ _ (by decide)) (fun H=>hg.hk2 _ _ _ _) Tryz.func273 rfl ?_
 have hst:∀ (env:List V) (x:Bool),jY Tryz.prog 4 ⟨bs,[]⟩ [] [] (some (.bool x,env)) (some (.ptr p 4))=some (.skip,⟨env,⟨bs.set p (.cells (yG s x) 125),[]⟩,[],[]⟩):=fun env x=>by
  rw [wD sz4 hb' rfl rfl (by simp [yG]) (by simp [yG,yM,locked])]
  simp only [zbq,Hp.set,V.laid,yG,Vm.storeCells,zAH,zAG]
 have hl2:∀ x,zM Tryz.prog ⟨bs.set p (.cells (yG s x) 125),[]⟩ gl.g 4 (.ptr p 4)=some (.bool x):=fun x=>qc (H:=⟨bs.set p (.cells (yG s x) 125),[]⟩) ag4 (jk hlt) rfl;simp only [Tryz.f273,ze];refine zc (tk:=[]) (by kernel_rfl) ?_
 simp only [zl,go_os_nil,ze,zd,zo,ofVal,zf,opQ_val,zr,zAB,zAS,List.length_nil,zAU,Nat.reduceAdd,zAV,zAT,zAG,zAH,List.replicate,Nat.reduceSub]
 refine zc (tk:=[]) (by kernel_rfl) ?_
 cases bg with
 | false =>
  simp only [zl,go_os_nil,ze,zj,zn,zE,zS,zy,zg,zV,peeks,zN,peek,zh,ofVal,zt,zb,opQ_val,opQ_skip,zr,zq,zk,zu,zAC,zAB,derefA,zm,zP,zF,qo,zAW,zAi,zAU,zAk,z7,zi,zp,zAG,zAH,jb,zQ,qm,wantB_tf,wG,fo125_0,fo125_1,hl,hcl,wV,z7,hst]
  refine zc (tk:=[]) (by kernel_rfl) ?_
  simp only [zl,go_os_nil,zj,zn,zd,zy,zg,peek,zh,zt,zb,zf,opQ_val,zr,zk,zu,zAC,zAB,derefA,zm,zP,zAU,zi,zp,zAG,zAH,fo125_1,hl2]
  simp only [go_ret,zB,Vm.Fin]
  exact ⟨trivial,[.bool false],rfl,rfl,(zT (by simp) (zAY _)).symm⟩
 | true =>
  simp only [zl,go_os_nil,ze,zj,zn,zE,zS,zy,zg,zV,peeks,zN,peek,zh,ofVal,zt,zb,opQ_val,opQ_skip,zr,zq,zk,zu,zAC,zAB,derefA,zm,zP,zF,qo,zAW,zAi,zAU,zAk,z6,zi,zp,zAG,zAH,jb,zQ,qm,wantB_tt,wx,fo125_0,fo125_1,hl,hcl,wV,z6,hst]
  refine zc (tk:=[]) (by kernel_rfl) ?_
  simp only [zl,go_os_nil,zj,zn,zd,zy,zg,peek,zh,zt,zb,zf,opQ_val,zr,zk,zu,zAC,zAB,derefA,zm,zP,zAU,zi,zp,zAG,zAH,fo125_1,hl2]
  simp only [go_ret,zB,Vm.Fin]
  exact ⟨trivial,[.bool (zc5 s c)],rfl,rfl,(zT (by simp) (zAY _)).symm⟩
theorem z24:jp Tryz.prog 24=some (stV st0):=by kernel_rfl
theorem wV (s:St4):clr (stV s)=stV s:=rfl
theorem zeO {H:Hp} {g:Nat->Nat->Option V} {b:Nat} {s:St4} (h:H.get b=some (.cells (stV s).cells 24)):zM Tryz.prog H g 24 (.ptr b 0)=some (stV s):=yi ag24 sz24 h (show 0+4<=4 by decide)
theorem zar {H:Hp} {b:Nat} {s t:St4} {env:List V} {lk:List (Nat×Nat)} {df:List (V×List V)} (h:H.get b=some (.cells (stV s).cells 24)):jY Tryz.prog 24 H lk df (some (stV t,env)) (some (.ptr b 0))=some (.skip,⟨env,H.set b (.cells (stV t).cells 24),lk,df⟩):=by
 rw [wD sz24 h rfl rfl (show 0+4<=4 by decide) (za4 (cs:=(stV s).cells) rfl (show 0+4<=4 by decide))]
 rw [vK rfl];rfl
theorem vA {env:List V} {t:Nat} {s:St4}:kb env t (some (stV s))=some (stV s,env):=rfl
theorem zeP {env:List V} {H:Hp} {lk:List (Nat×Nat)} {df:List (V×List V)}:zii 24 env H lk df (jp Tryz.prog 24)=some (.val (.ptr H.blks.length 0),⟨env,H.push (.cells (stV st0).cells 24),lk,df⟩):=by
 rw [z24,zbo rfl]
theorem zcA {bs:List Blk} {es:List (Nat×Nat)} {x:Blk}:Hp.get ⟨bs++[x],es⟩ bs.length=some x:=get_at0
theorem zbr {bs:List Blk} {es:List (Nat×Nat)} {x y:Blk}:Hp.set ⟨bs++[x],es⟩ bs.length y=⟨bs++[y],es⟩:=set_at0
theorem zkD {bs:List Blk} {es:List (Nat×Nat)} {s:St4} {env:List V} {t:Nat} (h:nth env t=some (.ptr bs.length 0)):zU Tryz.prog ⟨bs++[.cells (stV s).cells 24],es⟩ env [.cell t 24]=some [stV s]:=by
 simp only [zU,h,zeO (H:=⟨bs++[.cells (stV s).cells 24],es⟩) (b:=bs.length) zcA,wV]
theorem zfY {env:List V}:kS Tryz.prog 24 #[] env=some (stV st0):=by kernel_rfl
theorem zrO (hg:GW gl) {n:Nat} {bs:List Blk} {es:List (Nat×Nat)} {p:Nat} {s:St4} {m bg:Bool} (hb:nth bs p=some (.cells (yG s m) 125)) :
  callA Tryz.prog gl (n+1) 272 [.ptr p 0,.bool bg] ⟨bs,es⟩=some (.ret (stV (if bg then s else st0)),⟨bs,es⟩):=by
 have hlt:p<bs.length:=yp (H:=⟨bs,[]⟩) hb;have hb':Hp.get ⟨bs++[.cells (stV st0).cells 24],[]⟩ p=some (.cells (yG s m) 125):=(wz hlt).trans hb;have hl:zM Tryz.prog ⟨bs++[.cells (stV st0).cells 24],[]⟩ gl.g 24 (.ptr p 0)=some (stV s):=yi ag24 sz24 hb' (show 0+4<=(yG s m).length by simp [yG])
 refine qT (hg.hk _ _ (by decide)) (fun H=>hg.hk2 _ _ _ _) Tryz.func272 rfl ?_
 simp only [Tryz.f272,ze];refine zc (tk:=[]) (by kernel_rfl) ?_
 simp only [zl,go_os_nil,ze,qa,opQ_val,zr,qd,zAS,List.length_nil,zAU,Nat.reduceAdd,zAV,zAT,zAG,zAH,List.replicate,Nat.reduceSub,zeP]
 refine zc (tk:=[]) (by kernel_rfl) ?_
 cases bg with
 | false =>
  simp only [zl,go_os_nil,ze,go_skip,zj,peek,zb,opQ_val,zr,zk,zAa,zD,zK,zi,zp,zAG,zAH,zAD,zBB,zBl]
  refine zc (tk:=[]) (by kernel_rfl) ?_
  simp only [zl,go_os_nil,zE,ql,peek,zh,zb,opQ_val,opQ_skip,zr,zu,zi,zp,zAG,zAH,zfY,vA,zar zcA,zbr]
  simp only [go_ret,zB,Vm.Fin]
  exact ⟨trivial,[stV st0],zkD rfl,rfl,(ja (ls:=[_]) (zAY _)).symm⟩
 | true =>
  simp only [zl,go_os_nil,ze,go_skip,zj,peek,zb,opQ_val,zr,zk,zAa,zD,zK,if_true,zi,zp,zAG,zAH,zAa,zBB,zBx,zA3]
  refine zc (tk:=[]) (by kernel_rfl) ?_
  simp only [zl,go_os_nil,zj,zn,zE,zy,zg,peek,zh,zb,opQ_val,opQ_skip,zr,zu,zAC,zAB,derefA,zm,zP,zAk,zi,zp,zAG,zAH,fo125_0,hl,wV,vA,zar zcA,zbr]
  simp only [go_ret,zB,qH,Vm.Fin]
  exact ⟨trivial,[stV s],zkD rfl,rfl,(ja (ls:=[_]) (zAY _)).symm⟩
theorem zrP (hg:GW gl) {n:Nat} {bs:List Blk} {es:List (Nat×Nat)} {bg:Bool} :
  callA Tryz.prog gl (n+1) 276 [.agg [],.bool bg] ⟨bs,es⟩=some (.ret (stV st0),⟨bs,es⟩):=by
 refine qT (hg.hk _ _ (by decide)) (fun H=>hg.hk2 _ _ _ _) Tryz.func276 rfl ?_
 simp only [Tryz.f276,ze];refine zc (tk:=[]) (by kernel_rfl) ?_
 simp only [zl,go_os_nil,ze,q5,qa,zh,zW,opQ_val,zr,qd,zAc,zAS,List.length_nil,zAU,Nat.reduceAdd,zAb,zAV,zAT,zi,zAG,zAH,List.replicate,Nat.reduceSub,zeP,jf (show okC (.agg [])=true from rfl)]
 refine zc (tk:=[]) (by kernel_rfl) ?_
 have g1:∀ x y:Blk,Hp.get ⟨bs++[x,y],[]⟩ (bs.length+1)=some y:=fun x y=>Vm.get_at (k:=1);simp only [zl,go_os_nil,zE,ql,peek,zh,zb,opQ_val,opQ_skip,zr,zu,zi,zp,zAG,zAH,zfY,vA,zar (g1 _ _)]
 rw [Vm.set_at (k:=1)];simp only [go_ret,zB,Vm.Fin]
 refine ⟨trivial,[stV st0],?_,rfl,(ja (ls:=[_,_]) (zAY _)).symm⟩;simp only [zU,zp,zi];rw [zeO (s:=st0) (by exact Vm.get_at (k:=1))]
 rfl
end Go.Proofs.YtlnijcffanjieaaGreatDoor
namespace Go.Proofs.YtlnijcffanjieaaGreatDoor
set_option maxRecDepth 100000
open Go Go.Vm
variable {gl:Gl}
abbrev mEm:= "bolter/match.empty"
abbrev mEn:= "bolter/match.ends"
abbrev mNx:= "bolter/match.next"
abbrev mSt:= "bolter/match.step"
def zaa (va vb:V) (null last:Bool):List V:=[va,vb,.bool null,.bool last]
def zc6 (v:V) (loop null:Bool):List V:=[v,.bool loop,.bool null]
theorem kE {n:Nat} {nm:String} {v:V} {args:List V} {H H':Hp} {lk:List (Nat×Nat)} {df:List (V×List V)} {env:List V} {r:V} (h:wM gl n nm v args H=some (.val r,H')) :
  zoO ⟨Tryz.prog,gl.g,callA Tryz.prog gl n,gl.uq⟩ nm H lk df env (some v) (some args)=some (.val r,⟨env,H',lk,df⟩):=by
 rw [zlK];unfold wM at h;rw [h];rfl
theorem zqW (hg:GW gl) {n:Nat} {bs:List Blk} {es:List (Nat×Nat)} {p:Nat} {va vb:V} {null last bg ea na:Bool} (hb:nth bs p=some (.cells (zaa va vb null last) 133)) (hva:clr va=va)
  (he:wM gl n mEm va [] ⟨bs,[]⟩=some (.val (.bool ea),⟨bs,[]⟩)) (hn:wM gl n mEn va [] ⟨bs,[]⟩=some (.val (.bool na),⟨bs,[]⟩)) :
  callA Tryz.prog gl (n+1) 282 [.ptr p 0,.bool bg] ⟨bs,es⟩=some (.ret (.bool (bg && ea || na)),⟨bs,es⟩):=by
 have hl:zM Tryz.prog ⟨bs,[]⟩ gl.g 93 (.ptr p 0)=some va:=qc (H:=⟨bs,[]⟩) ag93 hb rfl;have he':=fun env=>kE (lk:=[]) (df:=[]) (env:=env) he;have hn':=fun env=>kE (lk:=[]) (df:=[]) (env:=env) hn;refine qT (hg.hk _ _ (by decide)) (fun H=>hg.hk2 _ _ _ _) Tryz.func282 rfl ?_
 simp only [Tryz.f282,ze];refine zc (tk:=[]) (by kernel_rfl) ?_
 simp only [zl,go_os_nil,ze,zd,zo,ofVal,zf,opQ_val,zr,zAB,zAS,List.length_nil,zAU,Nat.reduceAdd,zAV,zAT,zAG,zAH,List.replicate,Nat.reduceSub]
 refine zc (tk:=[]) (by kernel_rfl) ?_
 cases bg with
 | false =>
  simp only [zl,go_os_nil,zj,zn,zS,zd,zy,zg,peeks,peek,zh,ofVal,zt,zb,zf,opQ_val,zr,zk,zu,zAC,zAB,derefA,zm,zP,zAk,z7,zi,zp,zAG,zAH,jb,zQ,qm,wantB_tf,wantB_ff,wx,wG,fo133_0,hl,hva,qk,he',hn',z7]
  simp only [go_ret,zB,Vm.Fin]
  exact ⟨trivial,[.bool na],rfl,rfl,(zT rfl (zAY _)).symm⟩
 | true =>
  cases ea with
  | false =>
   simp only [zl,go_os_nil,zj,zn,zS,zd,zy,zg,peeks,peek,zh,ofVal,zt,zb,zf,opQ_val,zr,zk,zu,zAC,zAB,derefA,zm,zP,zAk,z6,z7,zi,zp,zAG,zAH,jb,zQ,qm,wantB_tt,wantB_ff,wx,fo133_0,hl,hva,qk,he',hn',z6,z7]
   simp only [go_ret,zB,Vm.Fin]
   exact ⟨trivial,[.bool na],rfl,rfl,(zT rfl (zAY _)).symm⟩
  | true =>
   simp only [zl,go_os_nil,zj,zn,zS,zd,zy,zg,peeks,peek,zh,ofVal,zt,zb,zf,opQ_val,zr,zk,zu,zAC,zAB,derefA,zm,zP,zAk,z6,zi,zp,zAG,zAH,jb,zQ,qm,wantB_tt,wantB_ft,wx,wG,fo133_0,hl,hva,qk,he',hn',z6]
   simp only [go_ret,zB,Vm.Fin]
   exact ⟨trivial,[.bool true],rfl,rfl,(zT rfl (zAY _)).symm⟩
theorem zrQ (hg:GW gl) {n:Nat} {bs:List Blk} {es:List (Nat×Nat)} {p:Nat} {v:V} {loop null na:Bool} (hb:nth bs p=some (.cells (zc6 v loop null) 140)) (hv:clr v=v)
  (hn:wM gl n mEn v [] ⟨bs,[]⟩=some (.val (.bool na),⟨bs,[]⟩)) :
  callA Tryz.prog gl (n+1) 288 [.ptr p 0] ⟨bs,es⟩=some (.ret (.bool na),⟨bs,es⟩):=by
 have hl:zM Tryz.prog ⟨bs,[]⟩ gl.g 93 (.ptr p 0)=some v:=qc (H:=⟨bs,[]⟩) ag93 hb rfl;have hn':=fun env=>kE (lk:=[]) (df:=[]) (env:=env) hn;refine qT (hg.hk _ _ (by decide)) (fun H=>hg.hk2 _ _ _ _) Tryz.func288 rfl ?_
 simp only [Tryz.f288,ze];refine zc (tk:=[]) (by kernel_rfl) ?_
 simp only [zl,go_os_nil,ze,zd,zo,ofVal,zf,opQ_val,zr,zAB,zAS,List.length_nil,zAU,zAV,zAT,zAG,zAH,List.replicate,Nat.reduceSub]
 refine zc (tk:=[]) (by kernel_rfl) ?_
 simp only [zl,go_os_nil,zj,zn,zd,zy,zg,peeks,peek,zh,zt,zb,zf,opQ_val,zr,zu,zAC,zAB,derefA,zm,zP,zAk,zi,zp,zAG,zAH,fo140_0,hl,hv,qk,hn']
 simp only [go_ret,zB,Vm.Fin]
 exact ⟨trivial,[.bool na],rfl,rfl,(zT rfl (zAY _)).symm⟩
theorem zqX (hg:GW gl) {n:Nat} {bs:List Blk} {es:List (Nat×Nat)} {p:Nat} {v:V} {loop null bg na:Bool} (hb:nth bs p=some (.cells (zc6 v loop null) 140)) (hv:clr v=v)
  (hn:wM gl n mEn v [] ⟨bs,[]⟩=some (.val (.bool na),⟨bs,[]⟩)) :
  callA Tryz.prog gl (n+1) 291 [.ptr p 0,.bool bg] ⟨bs,es⟩=some (.ret (.bool (bg || loop && na)),⟨bs,es⟩):=by
 have hl:zM Tryz.prog ⟨bs,[]⟩ gl.g 93 (.ptr p 0)=some v:=qc (H:=⟨bs,[]⟩) ag93 hb rfl;have hl1:zM Tryz.prog ⟨bs,[]⟩ gl.g 4 (.ptr p 1)=some (.bool loop):=qc (H:=⟨bs,[]⟩) ag4 hb rfl;have hn':=fun env=>kE (lk:=[]) (df:=[]) (env:=env) hn;refine qT (hg.hk _ _ (by decide)) (fun H=>hg.hk2 _ _ _ _) Tryz.func291 rfl ?_
 simp only [Tryz.f291,ze];refine zc (tk:=[]) (by kernel_rfl) ?_
 simp only [zl,go_os_nil,ze,zd,zo,ofVal,zf,opQ_val,zr,zAB,zAS,List.length_nil,zAU,Nat.reduceAdd,zAV,zAT,zAG,zAH,List.replicate,Nat.reduceSub]
 refine zc (tk:=[]) (by kernel_rfl) ?_
 cases bg with
 | true =>
  simp only [zl,go_os_nil,zj,zn,zS,zd,zy,zg,peeks,peek,zh,ofVal,zt,zb,zf,opQ_val,zr,zk,zu,zAC,zAB,derefA,zm,zP,zAU,zAk,z6,zi,zp,zAG,zAH,jb,zQ,qm,wantB_ft,wG,fo140_0,fo140_1,hl,hl1,hv,qk,hn',z6]
  simp only [go_ret,zB,Vm.Fin]
  exact ⟨trivial,[.bool true],rfl,rfl,(zT rfl (zAY _)).symm⟩
 | false =>
  cases loop with
  | false =>
   simp only [zl,go_os_nil,zj,zn,zS,zd,zy,zg,peeks,peek,zh,ofVal,zt,zb,zf,opQ_val,zr,zk,zu,zAC,zAB,derefA,zm,zP,zAU,zAk,z7,zi,zp,zAG,zAH,jb,zQ,qm,wantB_tf,wantB_ff,wx,wG,fo140_0,fo140_1,hl,hl1,hv,qk,hn',z7]
   simp only [go_ret,zB,Vm.Fin]
   exact ⟨trivial,[.bool false],rfl,rfl,(zT rfl (zAY _)).symm⟩
  | true =>
   simp only [zl,go_os_nil,zj,zn,zS,zd,zy,zg,peeks,peek,zh,ofVal,zt,zb,zf,opQ_val,zr,zk,zu,zAC,zAB,derefA,zm,zP,zAU,zAk,z6,z7,zi,zp,zAG,zAH,jb,zQ,qm,wantB_tt,wantB_ff,wx,fo140_0,fo140_1,hl,hl1,hv,qk,hn',z6,z7]
   simp only [go_ret,zB,Vm.Fin]
   exact ⟨trivial,[.bool na],rfl,rfl,(zT rfl (zAY _)).symm⟩
theorem zrR (hg:GW gl) {n:Nat} {bs bs1 bs2:List Blk} {es:List (Nat×Nat)} {p:Nat} {va vb:V} {null last bg sec fa gb eb:Bool} {c:Int} (hb:nth bs p=some (.cells (zaa va vb null last) 133)) (hva:clr va=va) (hvb:clr vb=vb)
  (hbeg:callA Tryz.prog gl n 282 [.ptr p 0,.bool bg] ⟨bs,[]⟩=some (.ret (.bool sec),⟨bs,[]⟩))
  (ha:wM gl n mSt va [.bool bg,.int .u8 c] ⟨bs,[]⟩=some (.val (.bool fa),⟨bs1,[]⟩)) (hp1:nth bs1 p=nth bs p)
  (hs:wM gl n mSt vb [.bool sec,.int .u8 c] ⟨bs1,[]⟩=some (.val (.bool gb),⟨bs2,[]⟩)) (hp2:nth bs2 p=nth bs p)
  (he:wM gl n mEm vb [] ⟨bs2,[]⟩=some (.val (.bool eb),⟨bs2,[]⟩)) (hlen:bs2.length=bs.length) :
  callA Tryz.prog gl (n+1) 281 [.ptr p 0,.bool bg,.int .u8 c] ⟨bs,es⟩=some (.ret (.bool (gb || fa && eb)),⟨bs2.set p (.cells (zaa va vb null (gb || fa && eb)) 133),es⟩):=by
 have hlt:p<bs2.length:=yp (H:=⟨bs2,[]⟩) (hp2.trans hb);have hl:zM Tryz.prog ⟨bs,[]⟩ gl.g 93 (.ptr p 0)=some va:=qc (H:=⟨bs,[]⟩) ag93 hb rfl;have hl1:zM Tryz.prog ⟨bs1,[]⟩ gl.g 93 (.ptr p 1)=some vb:=qc (H:=⟨bs1,[]⟩) ag93 (hp1.trans hb) rfl;have hl2:zM Tryz.prog ⟨bs2,[]⟩ gl.g 93 (.ptr p 1)=some vb:=qc (H:=⟨bs2,[]⟩) ag93 (hp2.trans hb) rfl
 have hbeg':Cx.callF ⟨Tryz.prog,gl.g,callA Tryz.prog gl n,gl.uq⟩ 282 [.ptr p 0,.bool bg] ⟨bs,[]⟩=some (.val (.bool sec),⟨bs,[]⟩):=qb Tryz.func282 rfl hbeg;have ha':=fun env=>kE (lk:=[]) (df:=[]) (env:=env) ha;have hs':=fun env=>kE (lk:=[]) (df:=[]) (env:=env) hs;have he':=fun env=>kE (lk:=[]) (df:=[]) (env:=env) he
 have hst:∀ (env:List V) (x:Bool),jY Tryz.prog 4 ⟨bs2,[]⟩ [] [] (some (.bool x,env)) (some (.ptr p 3))=some (.skip,⟨env,⟨bs2.set p (.cells (zaa va vb null x) 133),[]⟩,[],[]⟩):=fun env x=>by
  rw [wD sz4 (H:=⟨bs2,[]⟩) (hp2.trans hb) rfl rfl (by simp [zaa]) (by simp [zaa,yM,locked])]
  simp only [zbq,Hp.set,V.laid,zaa,Vm.storeCells,zAH,zAG]
 have hl3:∀ x,zM Tryz.prog ⟨bs2.set p (.cells (zaa va vb null x) 133),[]⟩ gl.g 4 (.ptr p 3)=some (.bool x):=fun x=>qc (H:=⟨bs2.set p (.cells (zaa va vb null x) 133),[]⟩) ag4 (jk hlt) rfl;refine qT (hg.hk _ _ (by decide)) (fun H=>hg.hk2 _ _ _ _) Tryz.func281 rfl ?_
 simp only [Tryz.f281,ze];refine zc (tk:=[]) (by kernel_rfl) ?_
 simp only [zl,go_os_nil,ze,zd,zo,ofVal,zf,opQ_val,zr,zAB,zAS,List.length_nil,zAU,Nat.reduceAdd,zAV,zAT,zAG,zAH,List.replicate,Nat.reduceSub]
 refine zc (tk:=[]) (by kernel_rfl) ?_
 simp only [zl,go_os_nil,ze,zj,zd,zV,peeks,zN,peek,zh,zt,zb,zf,opQ_val,zr,zk,zu,zF,qo,zAW,zAi,zi,zp,zAG,zAH,hbeg']
 refine zc (tk:=[]) (by kernel_rfl) ?_
 simp only [zl,go_os_nil,ze,zj,zn,zd,zy,zg,peeks,zN,peek,zh,zt,zb,zf,opQ_val,zr,zq,zk,zu,zAC,zAB,derefA,zm,zP,zAk,zi,zp,zAG,zAH,fo133_0,hl,hva,qk,ha']
 refine zc (tk:=[]) (by kernel_rfl) ?_
 cases gb with
 | true =>
  simp only [zl,go_os_nil,ze,zj,zn,zE,zS,zy,zg,peeks,zN,peek,zh,ofVal,zt,zb,opQ_val,opQ_skip,zr,zq,zk,zu,zAC,zAB,derefA,zm,zP,zAU,z6,zi,zp,zAG,zAH,jb,zQ,qm,wantB_ft,wG,fo133_1,fo133_3,hl1,hl2,hvb,qk,hs',he',z6,hst]
  refine zc (tk:=[]) (by kernel_rfl) ?_
  simp only [zl,go_os_nil,zj,zn,zd,zy,zg,peek,zh,zt,zb,zf,opQ_val,zr,zk,zu,zAC,zAB,derefA,zm,zP,zAU,zi,zp,zAG,zAH,fo133_3,hl3]
  simp only [go_ret,zB,Vm.Fin]
  exact ⟨trivial,[.bool true],rfl,rfl,(zT (by simp [hlen]) (zAY _)).symm⟩
 | false =>
  cases fa with
  | false =>
   simp only [zl,go_os_nil,ze,zj,zn,zE,zS,zy,zg,peeks,zN,peek,zh,ofVal,zt,zb,opQ_val,opQ_skip,zr,zq,zk,zu,zAC,zAB,derefA,zm,zP,zAU,z7,zi,zp,zAG,zAH,jb,zQ,qm,wantB_tf,wantB_ff,wx,wG,fo133_1,fo133_3,hl1,hl2,hvb,qk,hs',he',z7,hst]
   refine zc (tk:=[]) (by kernel_rfl) ?_
   simp only [zl,go_os_nil,zj,zn,zd,zy,zg,peek,zh,zt,zb,zf,opQ_val,zr,zk,zu,zAC,zAB,derefA,zm,zP,zAU,zi,zp,zAG,zAH,fo133_3,hl3]
   simp only [go_ret,zB,Vm.Fin]
   exact ⟨trivial,[.bool false],rfl,rfl,(zT (by simp [hlen]) (zAY _)).symm⟩
  | true =>
   simp only [zl,go_os_nil,ze,zj,zn,zE,zS,zy,zg,peeks,zN,peek,zh,ofVal,zt,zb,opQ_val,opQ_skip,zr,zq,zk,zu,zAC,zAB,derefA,zm,zP,zAU,z6,z7,zi,zp,zAG,zAH,jb,zQ,qm,wantB_tt,wantB_ff,wx,fo133_1,fo133_3,hl1,hl2,hvb,qk,hs',he',z6,z7,hst]
   refine zc (tk:=[]) (by kernel_rfl) ?_
   simp only [zl,go_os_nil,zj,zn,zd,zy,zg,peek,zh,zt,zb,zf,opQ_val,zr,zk,zu,zAC,zAB,derefA,zm,zP,zAU,zi,zp,zAG,zAH,fo133_3,hl3]
   simp only [go_ret,zB,Vm.Fin]
   exact ⟨trivial,[.bool eb],rfl,rfl,(zT (by simp [hlen]) (zAY _)).symm⟩
end Go.Proofs.YtlnijcffanjieaaGreatDoor
namespace Go.Proofs.YtlnijcffanjieaaGreatDoor
set_option maxRecDepth 100000
open Go Go.Vm
variable {gl:Gl}
theorem jZ {cx:Cx} {t d:Nat} {a:Operand} {ty:TypeId} {pos:String} {after:Array Edge} {guard:Option (Nat×Bool)} {env:List V} {H:Hp} {lk:List (Nat×Nat)} {df:List (V×List V)} {p v w:V} {D:Nat}
  (hp:peek env a=some p) (hl:zM cx.P H cx.gl t p=some v) (hv:clr v=w):cx.valC [] ⟨some d,.load t a,ty,pos,after,guard⟩ env w ⟨D,H,lk,df⟩=true:=by
 refine zkw (s1:=⟨env,H,lk,df⟩) ?_;rw [zn,hp,zAC,hl,zAB,hv];rfl
theorem zrS (hg:GW gl) {n:Nat} {bs bs1:List Blk} {es:List (Nat×Nat)} {p:Nat} {t:Nat} {u:V} {loop null bg sec fa:Bool} {c:Int} (hb:nth bs p=some (.cells (zc6 (.ifc t u) loop null) 140))
  (hbeg:callA Tryz.prog gl n 291 [.ptr p 0,.bool bg] ⟨bs,[]⟩=some (.ret (.bool sec),⟨bs,[]⟩))
  (ha:wM gl n mSt (.ifc t u) [.bool sec,.int .u8 c] ⟨bs,[]⟩=some (.val (.bool fa),⟨bs1,[]⟩)) (hp1:nth bs1 p=nth bs p) (hlen:bs1.length=bs.length) :
  callA Tryz.prog gl (n+1) 290 [.ptr p 0,.bool bg,.int .u8 c] ⟨bs,es⟩=some (.ret (.bool fa),⟨bs1,es⟩):=by
 have hl:zM Tryz.prog ⟨bs,[]⟩ gl.g 93 (.ptr p 0)=some (.ifc t u):=qc (H:=⟨bs,[]⟩) ag93 hb rfl;have hl1:zM Tryz.prog ⟨bs1,[]⟩ gl.g 93 (.ptr p 0)=some (.ifc t u):=qc (H:=⟨bs1,[]⟩) ag93 (hp1.trans hb) rfl;have hbeg':Cx.callF ⟨Tryz.prog,gl.g,callA Tryz.prog gl n,uqw⟩ 291 [.ptr p 0,.bool bg] ⟨bs,[]⟩=some (.val (.bool sec),⟨bs,[]⟩):=qb Tryz.func291 rfl hbeg
 have ha':=fun env=>kE (lk:=[]) (df:=[]) (env:=env) ha;rw [hg.uq] at ha';refine qT (hg.hk _ _ (by decide)) (fun H=>hg.hk2 _ _ _ _) Tryz.func290 rfl ?_
 rw [hg.uq];simp only [Tryz.f290,ze];refine zc (tk:=[]) (by kernel_rfl) ?_
 simp only [zl,go_os_nil,ze,zd,zo,ofVal,zf,opQ_val,zr,zAB,zAS,List.length_nil,zAU,Nat.reduceAdd,zAV,zAT,zAG,zAH,List.replicate,Nat.reduceSub]
 refine yh [3] [(false,false),(false,false),(false,false),(true,false),(false,false),(false,false),(false,true),(false,false),(false,false),(false,false),(false,true),(false,false)] (tk:=[]) (by kernel_rfl) (by kernel_rfl) ?_
 simp only [zj,zn,zd,zy,zg,zV,peeks,zN,peek,zh,zt,zb,zf,zr,zq,zk,zu,zAC,zAB,derefA,zm,zP,zF,qo,zAW,zAi,zAa,zAk,jg,zi,zp,zAG,zAH,oj_cons,oj_nil,xr,zcz,wj,vX,kD,kQ,ag93,fo140_0,hl,hbeg',qw,qk,ha'];refine ⟨⟨jZ (p:=.ptr p 0) rfl hl rfl,trivial⟩,⟨jZ (p:=.ptr p 0) rfl hl1 rfl,trivial⟩,?_⟩;simp only [go_ret,zB,Vm.Fin]
 exact ⟨trivial,[.bool fa],rfl,rfl,(zT (by simp [hlen]) (zAY _)).symm⟩
theorem zrT (hg:GW gl) {n:Nat} {bs:List Blk} {es:List (Nat×Nat)} {p:Nat} {t:Nat} {u:V} {loop null bg sec:Bool} {s:St4} (hb:nth bs p=some (.cells (zc6 (.ifc t u) loop null) 140))
  (hbeg:∀ bs',(∀ i,i<bs.length->nth bs' i=nth bs i)->callA Tryz.prog gl n 291 [.ptr p 0,.bool bg] ⟨bs',[]⟩=some (.ret (.bool sec),⟨bs',[]⟩))
  (ha:∀ bs',(∀ i,i<bs.length->nth bs' i=nth bs i)->wM gl n mNx (.ifc t u) [.bool sec] ⟨bs',[]⟩=some (.val (stV s),⟨bs',[]⟩)) :
  callA Tryz.prog gl (n+1) 289 [.ptr p 0,.bool bg] ⟨bs,es⟩=some (.ret (stV s),⟨bs,es⟩):=by
 have hlt:p<bs.length:=yp (H:=⟨bs,[]⟩) hb;have hpre:∀ x:Blk,∀ i,i<bs.length->nth (bs++[x]) i=nth bs i:=fun x i hi=>wz (es:=[]) (ls:=[x]) hi;have hl:∀ x:Blk,zM Tryz.prog ⟨bs++[x],[]⟩ gl.g 93 (.ptr p 0)=some (.ifc t u):=fun x=>qc (H:=⟨bs++[x],[]⟩) ag93 ((hpre x p hlt).trans hb) rfl
 have hbeg':Cx.callF ⟨Tryz.prog,gl.g,callA Tryz.prog gl n,uqw⟩ 291 [.ptr p 0,.bool bg] ⟨bs++[.cells (stV st0).cells 24],[]⟩=some (.val (.bool sec),⟨bs++[.cells (stV st0).cells 24],[]⟩):=qb Tryz.func291 rfl (hbeg _ (hpre _));have ha':=fun env=>kE (lk:=[]) (df:=[]) (env:=env) (ha (bs++[.cells (stV st0).cells 24]) (hpre _));rw [hg.uq] at ha'
 refine qT (hg.hk _ _ (by decide)) (fun H=>hg.hk2 _ _ _ _) Tryz.func289 rfl ?_
 rw [hg.uq];simp only [Tryz.f289,ze];refine zc (tk:=[]) (by kernel_rfl) ?_
 simp only [zl,go_os_nil,ze,qa,opQ_val,zr,qd,zAS,List.length_nil,zAU,Nat.reduceAdd,zAV,zAT,zAG,zAH,List.replicate,Nat.reduceSub,zeP]
 refine yh [3] [(false,false),(false,false),(false,false),(true,false),(false,false),(false,false),(false,true),(false,false),(false,false),(false,true),(false,true)] (tk:=[]) (by kernel_rfl) (by kernel_rfl) ?_
 simp only [zj,zn,zE,zy,zg,zV,peeks,zN,peek,zh,zb,zr,zk,zu,zAC,zAB,derefA,zm,zP,zF,qo,zAW,zAi,zAa,zAk,jg,zi,zp,zAG,zAH,oj_cons,oj_nil,xr,zcz,zeI,wj,vX,kD,kQ,ag93,fo140_0,hl,hbeg',qw,qk,ha',vA,zar zcA,zbr];refine ⟨⟨jZ (p:=.ptr p 0) rfl (hl _) rfl,trivial⟩,⟨jZ (p:=.ptr p 0) rfl (hl _) rfl,trivial⟩,fun _=>⟨jZ (p:=.ptr p 0) rfl (hl _) rfl,trivial⟩,?_⟩;simp only [go_ret,zB,Vm.Fin]
 exact ⟨trivial,[stV s],zkD rfl,rfl,(ja (ls:=[_]) (zAY _)).symm⟩
theorem zrU (hg:GW gl) {n:Nat} {bs:List Blk} {es:List (Nat×Nat)} {p:Nat} {t t':Nat} {u u':V} {null last bg sec:Bool} {s s':St4} (hs:RgS s) (hs':RgS s') (hb:nth bs p=some (.cells (zaa (.ifc t u) (.ifc t' u') null last) 133))
  (hbeg:∀ bs',(∀ i,i<bs.length->nth bs' i=nth bs i)->callA Tryz.prog gl (n+1) 282 [.ptr p 0,.bool bg] ⟨bs',[]⟩=some (.ret (.bool sec),⟨bs',[]⟩))
  (ha:∀ bs',(∀ i,i<bs.length->nth bs' i=nth bs i)->wM gl (n+1) mNx (.ifc t u) [.bool bg] ⟨bs',[]⟩=some (.val (stV s),⟨bs',[]⟩))
  (hb2:∀ bs',(∀ i,i<bs.length->nth bs' i=nth bs i)->wM gl (n+1) mNx (.ifc t' u') [.bool sec] ⟨bs',[]⟩=some (.val (stV s'),⟨bs',[]⟩)) :
  callA Tryz.prog gl (n+2) 280 [.ptr p 0,.bool bg] ⟨bs,es⟩=some (.ret (stV (zbP s s')),⟨bs,es⟩):=by
 have hlt:p<bs.length:=yp (H:=⟨bs,[]⟩) hb;have hpre:∀ x:Blk,∀ i,i<bs.length->nth (bs++[x]) i=nth bs i:=fun x i hi=>wz (es:=[]) (ls:=[x]) hi;have hl:∀ x:Blk,zM Tryz.prog ⟨bs++[x],[]⟩ gl.g 93 (.ptr p 0)=some (.ifc t u):=fun x=>qc (H:=⟨bs++[x],[]⟩) ag93 ((hpre x p hlt).trans hb) rfl
 have hl1:∀ x:Blk,zM Tryz.prog ⟨bs++[x],[]⟩ gl.g 93 (.ptr p 1)=some (.ifc t' u'):=fun x=>qc (H:=⟨bs++[x],[]⟩) ag93 ((hpre x p hlt).trans hb) rfl;have hbeg':Cx.callF ⟨Tryz.prog,gl.g,callA Tryz.prog gl (n+1),uqw⟩ 282 [.ptr p 0,.bool bg] ⟨bs++[.cells (stV st0).cells 24],[]⟩=some (.val (.bool sec),⟨bs++[.cells (stV st0).cells 24],[]⟩):=qb Tryz.func282 rfl (hbeg _ (hpre _))
 have hun:∀ H,Cx.callF ⟨Tryz.prog,gl.g,callA Tryz.prog gl (n+1),uqw⟩ 226 [stV s,stV s'] H=some (.val (stV (zbP s s')),H):=fun H=>qb Tryz.func226 rfl (y6 (hg.uni s s' hs hs'));have ha':=fun env=>kE (lk:=[]) (df:=[]) (env:=env) (ha (bs++[.cells (stV st0).cells 24]) (hpre _));have hb':=fun env=>kE (lk:=[]) (df:=[]) (env:=env) (hb2 (bs++[.cells (stV st0).cells 24]) (hpre _));rw [hg.uq] at ha' hb'
 refine qT (hg.hk _ _ (by decide)) (fun H=>hg.hk2 _ _ _ _) Tryz.func280 rfl ?_
 rw [hg.uq];simp only [Tryz.f280,ze];refine zc (tk:=[]) (by kernel_rfl) ?_
 simp only [zl,go_os_nil,ze,qa,opQ_val,zr,qd,zAS,List.length_nil,zAU,Nat.reduceAdd,zAV,zAT,zAG,zAH,List.replicate,Nat.reduceSub,zeP]
 refine xZ [3,9] [9] [(false,false,false,false),(false,false,false,false),(false,false,false,false),(true,false,false,false),(false,false,false,false),(false,true,false,false),(false,false,false,false),(false,false,false,false),(false,false,false,false),(true,false,true,false),(false,false,false,false),(false,false,false,false),(false,true,false,false),(false,false,false,false),(false,false,false,false),(false,true,false,false),(false,true,false,false),(false,true,false,false)] (tk:=[]) (by kernel_rfl) (by kernel_rfl) ?_
 simp only [zj,zn,zE,zy,zg,zV,peeks,zN,peek,zh,zb,zr,zk,zu,zAC,zAB,derefA,zm,zP,zF,qo,zAW,zAi,zAa,zAU,zAk,jg,zi,zp,zAG,zAH,ol_cons,ol_nil,olV_val,olV_late,olV_valh,olV_skip,late_nil,zlH,wj,vX,kD,kQ,ag93,fo133_0,fo133_1,hl,hl1,hbeg',qw,qk,ha',hb',hun,vA,wV,zar zcA,zbr]
 refine ⟨⟨jZ (p:=.ptr p 0) rfl (hl _) rfl,trivial⟩,⟨jZ (p:=.ptr p 1) rfl (hl1 _) rfl,trivial⟩,⟨jZ (p:=.ptr p 1) rfl (hl1 _) rfl,jZ (p:=.ptr p 0) rfl (hl _) rfl,trivial⟩,⟨jZ (p:=.ptr p 1) rfl (hl1 _) rfl,jZ (p:=.ptr p 0) rfl (hl _) rfl,trivial⟩,⟨jZ (p:=.ptr p 1) rfl (hl1 _) rfl,jZ (p:=.ptr p 0) rfl (hl _) rfl,trivial⟩,⟨jZ (p:=.ptr p 1) rfl (hl1 _) rfl,jZ (p:=.ptr p 0) rfl (hl _) rfl,trivial⟩,?_⟩
 simp only [go_ret,zB,Vm.Fin]
 exact ⟨trivial,[stV (zbP s s')],zkD rfl,rfl,(ja (ls:=[_]) (zAY _)).symm⟩
end Go.Proofs.YtlnijcffanjieaaGreatDoor
namespace Go.Proofs.YtlnijcffanjieaaGreatDoor
set_option maxRecDepth 100000
open Go Go.Vm
variable {gl:Gl}
theorem u135:Tryz.prog.underlying 135=some (.slice 93):=by kernel_rfl
def zbQ (vs:List V) (o:Vm.Own) (null last:Bool):List V:=[.sl 1 vs o,.bool null,.bool last]
theorem znt {H:Hp} {vs:List V} {o:Vm.Own}:wa Tryz.prog H 135 (.sl 1 vs o)=some (vs.length:Int):=by simp [wa]
theorem znu {vs:List V} {k:Nat} {v:V} {o:Vm.Own} (h:nth vs k=some v) (hv:v.cells=[v]):qh Tryz.prog 135 (.sl 1 vs o) (k:Int)=some (.vp [v]):=by
 have hk:¬ ((k:Int)<0):=by omega
 simp [qh,sz93,hk,h,hv]
theorem znv {H:Hp} {g:Nat->Nat->Option V} {v:V}:zM Tryz.prog H g 93 (.vp [v])=some v:=by simp [zM,wJ,ag93,nth,zce]
theorem zrV (hg:GW gl) {n:Nat} {bs:List Blk} {es:List (Nat×Nat)} {p:Nat} {vs:List V} {o:Vm.Own} {null last bg:Bool} {c:Int} (hb:nth bs p=some (.cells (zbQ vs o null last) 137)) (hvs:∀ v∈vs,∃ t u,v=.ifc t u)
  (acc:Nat->Bool) (J:Nat->List Blk->Prop) (hacc:acc 0=false) (hJp:∀ k bs' x,J k bs'->J k (bs'.set p x)) (h0:J 0 bs) (hn:vs.length<n)  (hlen:vs.length<=2 ^ 40)
  (hs:∀ k bs' v,nth vs k=some v->J k bs'->bs'.length=bs.length->nth bs' p=some (.cells (zbQ vs o null (acc k)) 137)->∃ bs1 r,wM gl n mSt v [.bool bg,.int .u8 c] ⟨bs',[]⟩=some (.val (.bool r),⟨bs1,[]⟩)/\nth bs1 p=nth bs' p/\bs1.length=bs'.length/\J (k+1) bs1/\acc (k+1)=(acc k || r)) :
  ∃ bs',callA Tryz.prog gl (n+1) 286 [.ptr p 0,.bool bg,.int .u8 c] ⟨bs,es⟩=some (.ret (.bool (acc vs.length)),⟨bs',es⟩)/\J vs.length bs'/\bs'.length=bs.length/\nth bs' p=some (.cells (zbQ vs o null (acc vs.length)) 137):=by
 have hst:∀ (bs':List Blk) (env:List V) (x y:Bool),nth bs' p=some (.cells (zbQ vs o null y) 137)->jY Tryz.prog 4 ⟨bs',[]⟩ [] [] (some (.bool x,env)) (some (.ptr p 2))=some (.skip,⟨env,⟨bs'.set p (.cells (zbQ vs o null x) 137),[]⟩,[],[]⟩):=fun bs' env x y h=>by
  rw [wD sz4 (H:=⟨bs',[]⟩) h rfl rfl (by simp [zbQ]) (by simp [zbQ,yM,locked])]
  simp only [zbq,Hp.set,V.laid,zbQ,Vm.storeCells,zAH,zAG]
 have hlt:p<bs.length:=yp (H:=⟨bs,[]⟩) hb
 suffices hmain:go ⟨Tryz.prog,gl.g,callA Tryz.prog gl n,gl.uq⟩ n (Fx Tryz.prog Tryz.f286.results.toList fun v H1=>∃ bs',v=.bool (acc vs.length)/\H1=⟨bs',[]⟩/\J vs.length bs'/\bs'.length=bs.length/\nth bs' p=some (.cells (zbQ vs o null (acc vs.length)) 137)) [.c (Tryz.f286.body.getD .skip)] .normal ⟨[.ptr p 0,.bool bg,.int .u8 c]++List.replicate 30 (.tup []),⟨bs,[]⟩,[],[]⟩ by
  obtain ⟨v,H1,h1,bs',rfl,rfl,h2,h3,h4⟩:=kM (gl:=gl) (f:=286) (bs:=bs) (es:=es) (args:=[.ptr p 0,.bool bg,.int .u8 c]) (n:=n) (hg.hk _ _ (by decide)) (fun H=>hg.hk2 _ _ _ _) Tryz.func286 rfl hmain
  refine ⟨bs',?_,h2,h3,h4⟩;rw [h1];exact congrArg some (congrArg (Prod.mk _) (zT h3.symm (zAY _)))
 simp only [Tryz.f286,zA2,ze];refine zc (tk:=[]) (by kernel_rfl) ?_
 simp only [zl,go_os_nil,ze,zd,zo,ofVal,zf,opQ_val,zr,zAB,zAV,zAT,zAG,zAH,List.replicate]
 refine zc (tk:=[]) (by kernel_rfl) ?_
 simp only [zl,go_os_nil,ze,zj,zE,zy,zg,peek,zo,ofVal,zb,opQ_val,opQ_skip,zr,zu,zAC,zAB,derefA,zm,zP,zAU,zi,zp,zAG,zAH,fo137_2,hst bs _ false last hb]
 obtain ⟨bs0,hbs0⟩:∃ bs0,bs0=bs.set p (.cells (zbQ vs o null false) 137):=⟨_,rfl⟩;have hb0:nth bs0 p=some (.cells (zbQ vs o null (acc 0)) 137):=by rw [hbs0,jk hlt,hacc]
 have hJ0:J 0 bs0:=by rw [hbs0];exact hJp _ _ _ h0
 have hl0:bs0.length=bs.length:=by rw [hbs0];simp
 rw [<- hbs0];have hld:zM Tryz.prog ⟨bs0,[]⟩ gl.g 135 (.ptr p 0)=some (.sl 1 vs o):=qc (H:=⟨bs0,[]⟩) ag135 hb0 rfl;refine zc (tk:=[]) (by kernel_rfl) ?_
 simp only [zl,go_os_nil,zO,zj,zn,zy,zg,qq,peek,ofVal,zb,opQ_val,zr,zu,kn,zAC,zAB,derefA,zm,zP,zAk,zi,zp,zAG,zAH,fo137_0,hld,znt]
 refine yF (fun m s=>∃ k env bs',m+k=vs.length/\s=⟨env,⟨bs',[]⟩,[],[]⟩/\env.length=33/\nth env 0=some (.ptr p 0)/\nth env 1=some (.bool bg)/\nth env 2=some (.int .u8 c)/\nth env 15=some (.sl 1 vs .no)/\nth env 16=some (.int .i64 vs.length)/\nth env 17=some (.int .i64 (k:Nat))/\bs'.length=bs.length/\J k bs'/\nth bs' p=some (.cells (zbQ vs o null (acc k)) 137)) vs.length hn ⟨0,_,bs0,rfl,rfl,rfl,rfl,rfl,rfl,rfl,rfl,rfl,hl0,hJ0,hb0⟩ ?_
 clear hld hb0 hJ0 hl0 hbs0 bs0;rintro m s ⟨k,env,bs',hmk,rfl,hel,h0',h1,h2,h15,h16,h17,hbl,hJ,hbp⟩;simp only [ze];refine zc (tk:=[]) (by kernel_rfl) ?_
 simp only [zl,go_os_nil,ze,go_skip,zO,zv,peek,zb,opQ_val,zr,zq,zk,zD,zK,if_true,za,Nat.reduceLT,if_true,h16,h17,hel,wA]
 by_cases hk:k<vs.length
 ·refine .inl ⟨by simp;omega,?_⟩
  obtain ⟨v,hv⟩:∃ v,nth vs k=some v:=⟨vs[k],by rw [zw];simp [hk]⟩
  have hvm:v∈vs:=by rw [zw] at hv;exact zAg hv
  obtain ⟨vt,vu,rfl⟩:=hvs v hvm;obtain ⟨bs1,r,hc1,hp1,hl1,hJ1,ha1⟩:=hs k bs' _ hv hJ hbl hbp;have hc1':=fun env=>kE (lk:=[]) (df:=[]) (env:=env) hc1
  try simp only [go_skip,ze,zO]
  refine zc (tk:=[]) (by kernel_rfl) ?_
  simp only [zl,go_os_nil,ze,zn,zd,zG,Nat.reduceEqDiff,peek,zh,zb,zf,opQ_val,zr,zq,jd,kn,zAC,zAB,jz,if_true,za,zAR,Nat.reduceLT,if_true,if_false,h15,h17,hel,jz,znu hv rfl,znv,qw,qz]
  refine zc (tk:=[]) (by kernel_rfl) ?_
  simp only [zl,go_os_nil,go_skip,qW,zj,Nat.reduceEqDiff,peeks,zN,peek,zb,opQ_val,zr,zq,zk,zD,zK,if_true,za,zAR,Nat.reduceLT,if_true,if_false,h1,h2,hel,qw,qk,hc1']
  cases r with
  | false =>
   rw [zBb] at ha1;simp only [zAD,zBB,zBl,zAa];refine zc (tk:=[]) (by kernel_rfl) ?_
   simp only [zl,go_os_nil,zj,zv,Nat.reduceEqDiff,peek,ofVal,zb,opQ_val,zr,zq,if_true,za,zAR,Nat.reduceLT,if_true,if_false,h17,hel,jL (show k<2 ^ 60 by omega),zB,thn_normal]
   refine ⟨vs.length - (k+1),by omega,k+1,_,bs1,by omega,rfl,?_,?_,?_,?_,?_,?_,?_,by omega,hJ1,?_⟩
   ·simp [hel]
   ·simp [za,h0']
   ·simp [za,h1]
   ·simp [za,h2]
   ·simp [za,h15]
   ·simp [za,h16]
   ·simp [za,hel]
   ·rw [hp1,hbp,ha1]
  | true =>
   rw [zBw] at ha1;simp only [zAa,zA3,zBB,zBx];refine zc (tk:=[]) (by kernel_rfl) ?_
   simp only [zl,go_os_nil,qW,zj,zE,zy,zg,Nat.reduceEqDiff,peek,zo,ofVal,zb,opQ_val,opQ_skip,zr,zu,zAC,zAB,derefA,zm,zP,zAU,if_true,za,zAR,Nat.reduceLT,if_true,if_false,h0',hel,fo137_2,hst bs1 _ true _ (hp1.trans hbp)]
   refine zc (tk:=[]) (by kernel_rfl) ?_
   simp only [zl,go_os_nil,zj,zv,Nat.reduceEqDiff,peek,ofVal,zb,opQ_val,zr,zq,if_true,za,zAR,Nat.reduceLT,if_true,if_false,h17,hel,jL (show k<2 ^ 60 by omega),zB,thn_normal]
   refine ⟨vs.length - (k+1),by omega,k+1,_,bs1.set p (.cells (zbQ vs o null true) 137),by omega,rfl,?_,?_,?_,?_,?_,?_,?_,by simp;omega,hJp _ _ _ hJ1,?_⟩
   ·simp [hel]
   ·simp [za,h0']
   ·simp [za,h1]
   ·simp [za,h2]
   ·simp [za,h15]
   ·simp [za,h16]
   ·simp [za,hel]
   ·rw [jk (by omega),ha1]
 ·refine .inr ⟨by simp;omega,?_⟩
  obtain rfl:k=vs.length:=by omega
  have hld2:zM Tryz.prog ⟨bs',[]⟩ gl.g 4 (.ptr p 2)=some (.bool (acc vs.length)):=qc (H:=⟨bs',[]⟩) ag4 hbp rfl;simp only [yE,wC,kW,zB,thn_exit,ze,zBO,if_true,zB];refine zc (tk:=[]) (by kernel_rfl) ?_
  simp only [zl,go_os_nil,zj,zn,zd,zy,zg,Nat.reduceEqDiff,peek,zh,zt,zb,zf,opQ_val,zr,zk,zu,zAC,zAB,derefA,zm,zP,zAU,if_true,za,zAR,Nat.reduceLT,if_true,if_false,h0',hel,fo137_2,hld2]
  simp only [go_ret,zB,Fx]
  refine ⟨trivial,[.bool (acc vs.length)],?_,bs',rfl,rfl,hJ,hbl,hbp⟩;simp [zU,za,hel]
end Go.Proofs.YtlnijcffanjieaaGreatDoor
namespace Go.Proofs.YtlnijcffanjieaaGreatDoor
set_option maxRecDepth 100000
open Go Go.Vm
variable {gl:Gl}
theorem za5 {bs:List Blk} {es:List (Nat×Nat)} {x y:Blk}:Hp.get ⟨bs++[x,y],es⟩ (bs.length+1)=some y:=Vm.get_at (k:=1)
theorem za6 {bs:List Blk} {es:List (Nat×Nat)} {x y:Blk}:Hp.get ⟨bs++[x,y],es⟩ bs.length=some x:=Vm.get_at0
theorem znw {bs:List Blk} {es:List (Nat×Nat)} {x y z:Blk}:Hp.set ⟨bs++[x,y],es⟩ (bs.length+1) z=⟨bs++[x,z],es⟩:=Vm.set_at (k:=1)
theorem znx {bs:List Blk} {es:List (Nat×Nat)} {x y z:Blk}:Hp.set ⟨bs++[x,y],es⟩ bs.length z=⟨bs++[z,y],es⟩:=Vm.set_at0
theorem zrW (hg:GW gl) {n:Nat} {bs:List Blk} {es:List (Nat×Nat)} {p:Nat} {vs:List V} {o:Vm.Own} {null last bg:Bool} (hb:nth bs p=some (.cells (zbQ vs o null last) 137)) (hvs:∀ v∈vs,∃ t u,v=.ifc t u)
  (acc:Nat->St4) (hacc:acc 0=st0) (hrg:∀ k,RgS (acc k)) (hn:vs.length<n+1) (hlen:vs.length<=2 ^ 40)
  (hs:∀ k v bs',nth vs k=some v->(∀ i,i<bs.length->nth bs' i=nth bs i)->∃ s,wM gl (n+1) mNx v [.bool bg] ⟨bs',[]⟩=some (.val (stV s),⟨bs',[]⟩)/\RgS s/\acc (k+1)=zbP (acc k) s) :
  callA Tryz.prog gl (n+2) 285 [.ptr p 0,.bool bg] ⟨bs,es⟩=some (.ret (stV (acc vs.length)),⟨bs,es⟩):=by
 have hlt:p<bs.length:=yp (H:=⟨bs,[]⟩) hb;have hpre:∀ l:List Blk,∀ i,i<bs.length->nth (bs++l) i=nth bs i:=fun l i hi=>wz (es:=[]) (ls:=l) hi
 suffices hmain:go ⟨Tryz.prog,gl.g,callA Tryz.prog gl (n+1),gl.uq⟩ (n+1) (Fx Tryz.prog Tryz.f285.results.toList fun v H1=>∃ l,v=stV (acc vs.length)/\H1=⟨bs++l,[]⟩) [.c (Tryz.f285.body.getD .skip)] .normal ⟨[.ptr p 0,.bool bg]++List.replicate 22 (.tup []),⟨bs,[]⟩,[],[]⟩ by
  obtain ⟨v,H1,h1,l,rfl,rfl⟩:=kM (gl:=gl) (f:=285) (bs:=bs) (es:=es) (args:=[.ptr p 0,.bool bg]) (n:=n+1) (hg.hk _ _ (by decide)) (fun H=>hg.hk2 _ _ _ _) Tryz.func285 rfl hmain
  rw [h1];exact congrArg some (congrArg (Prod.mk _) (ja (zAY _)))
 rw [hg.uq];simp only [Tryz.f285,zA2,ze];refine zc (tk:=[]) (by kernel_rfl) ?_
 simp only [zl,go_os_nil,ze,qa,opQ_val,zr,qd,zAV,zAT,zAG,zAH,List.replicate,zeP]
 refine zc (tk:=[]) (by kernel_rfl) ?_
 simp only [zl,go_os_nil,ze,qa,opQ_val,zr,qd,zAc,zAS,List.length_nil,zAU,zAb,zAV,zAT,zAG,zAH,zeP]
 have hld:∀ x y,zM Tryz.prog ⟨bs++[x,y],[]⟩ gl.g 135 (.ptr p 0)=some (.sl 1 vs o):=fun x y=>qc (H:=⟨bs++[x,y],[]⟩) ag135 ((hpre _ p hlt).trans hb) rfl;refine zc (tk:=[]) (by kernel_rfl) ?_
 simp only [zl,go_os_nil,zO,zj,zn,zy,zg,qq,peek,ofVal,zb,opQ_val,zr,zu,kn,zAC,zAB,derefA,zm,zP,zAk,zi,zp,zAG,zAH,fo137_0,hld,znt]
 refine yF (fun m s=>∃ k env,m+k=vs.length/\s=⟨env,⟨bs++[.cells (stV st0).cells 24,.cells (stV (acc k)).cells 24],[]⟩,[],[]⟩/\env.length=24/\nth env 1=some (.bool bg)/\nth env 4=some (.ptr bs.length 0)/\nth env 5=some (.ptr (bs.length+1) 0)/\nth env 11=some (.sl 1 vs .no)/\nth env 12=some (.int .i64 vs.length)/\nth env 13=some (.int .i64 (k:Nat))) vs.length hn ⟨0,_,rfl,by rw [hacc],rfl,rfl,rfl,rfl,rfl,rfl,rfl⟩ ?_
 clear hld;rintro m s ⟨k,env,hmk,rfl,hel,h1,h4,h5,h11,h12,h13⟩;simp only [ze];refine zc (tk:=[]) (by kernel_rfl) ?_
 simp only [zl,go_os_nil,ze,go_skip,zO,zv,peek,zb,opQ_val,zr,zq,zk,zD,zK,if_true,za,Nat.reduceLT,if_true,h12,h13,hel,wA]
 by_cases hk:k<vs.length
 ·refine .inl ⟨by simp;omega,?_⟩
  obtain ⟨v,hv⟩:∃ v,nth vs k=some v:=⟨vs[k],by rw [zw];simp [hk]⟩
  have hvm:v∈vs:=by rw [zw] at hv;exact zAg hv
  obtain ⟨vt,vu,rfl⟩:=hvs v hvm;obtain ⟨s,hc1,hrs,ha1⟩:=hs k _ (bs++[.cells (stV st0).cells 24,.cells (stV (acc k)).cells 24]) hv (hpre _);have hc1':=fun env=>kE (lk:=[]) (df:=[]) (env:=env) hc1;rw [hg.uq] at hc1'
  have hun:∀ H,Cx.callF ⟨Tryz.prog,gl.g,callA Tryz.prog gl (n+1),uqw⟩ 226 [stV (acc k),stV s] H=some (.val (stV (zbP (acc k) s)),H):=fun H=>qb Tryz.func226 rfl (y6 (hg.uni _ s (hrg k) hrs));have hlc:zM Tryz.prog ⟨bs++[.cells (stV st0).cells 24,.cells (stV (acc k)).cells 24],[]⟩ gl.g 24 (.ptr (bs.length+1) 0)=some (stV (acc k)):=zeO za5
  try simp only [go_skip,ze,zO]
  refine zc (tk:=[]) (by kernel_rfl) ?_
  simp only [zl,go_os_nil,zn,zd,zG,Nat.reduceEqDiff,peek,zh,zb,zf,opQ_val,zr,zq,jd,kn,zAC,zAB,jz,if_true,za,zAR,Nat.reduceLT,if_true,if_false,h11,h13,hel,jz,znu hv rfl,znv,qw,qz]
  refine xZ [0] [] [(true,false,false,false),(false,false,false,false),(false,false,false,false),(false,true,false,false),(false,true,false,true),(false,true,false,true)] (tk:=[]) (by kernel_rfl) (by kernel_rfl) ?_
  simp only [qW,zj,zn,zE,zV,Nat.reduceEqDiff,peeks,zN,peek,zh,zb,zr,zk,zu,zAC,zAB,zF,qo,zAW,zAi,zAa,jg,if_true,za,zAR,Nat.reduceLT,if_true,if_false,ol_cons,ol_nil,olV_val,olV_valh,olV_valc,olV_skipc,wj,vX,kD,kQ,ag24,h1,h5,hel,hlc,wV,qw,qk,hc1',hun,vA,zar za5,znw]
  have hpe:peek ((((env.set 14 (V.bool (decide ((k:Int)<(vs.length:Int))))).set 15 (V.vp [V.ifc vt vu])).set 16 (V.ifc vt vu)).set 7 (V.ifc vt vu)) (.tmp 5)=some (.ptr (bs.length+1) 0):=by simp [peek,za,h5,clr]
  refine ⟨rfl,⟨jZ hpe hlc rfl,trivial⟩,?_⟩;refine zc (tk:=[]) (by kernel_rfl) ?_
  simp only [zl,go_os_nil,zj,zv,Nat.reduceEqDiff,peek,ofVal,zb,opQ_val,zr,zq,if_true,za,zAR,Nat.reduceLT,if_true,if_false,h13,hel,jL (show k<2 ^ 60 by omega),zB,thn_normal]
  refine ⟨vs.length - (k+1),by omega,k+1,_,by omega,by rw [ha1],?_,?_,?_,?_,?_,?_,?_⟩
  ·simp [hel]
  ·simp [za,h1]
  ·simp [za,h4]
  ·simp [za,h5]
  ·simp [za,h11]
  ·simp [za,h12]
  ·simp [za,hel]
 ·refine .inr ⟨by simp;omega,?_⟩
  obtain rfl:k=vs.length:=by omega
  have hlc:zM Tryz.prog ⟨bs++[.cells (stV st0).cells 24,.cells (stV (acc vs.length)).cells 24],[]⟩ gl.g 24 (.ptr (bs.length+1) 0)=some (stV (acc vs.length)):=zeO za5;simp only [yE,wC,kW,zB,thn_exit,ze,zBO,if_true,zB];refine zc (tk:=[]) (by kernel_rfl) ?_
  simp only [zl,go_os_nil,zn,zE,Nat.reduceEqDiff,peek,zh,zb,opQ_val,opQ_skip,zr,zu,zAC,zAB,if_true,za,zAR,Nat.reduceLT,if_true,if_false,h4,h5,hel,hlc,wV,vA,zar za6,znx]
  simp only [go_ret,zB,Fx]
  refine ⟨trivial,[stV (acc vs.length)],?_,_,rfl,rfl⟩;simp only [zU,za,hel,h4,Nat.reduceEqDiff,if_false,zeO (s:=acc vs.length) za6,wV]
end Go.Proofs.YtlnijcffanjieaaGreatDoor
namespace Go.Proofs.YtlnijcffanjieaaGreatDoor
set_option maxRecDepth 100000
open Go Go.Vm
inductive Wd where
 |non|one (s:St4) (m:Bool)|both (a b:Wd) (null last:Bool)|alt (l:List Wd) (null last:Bool)|rep (w:Wd) (loop null:Bool)
def emW:Wd->Bool
 | .non=>true|.one _ _=>false|.both _ _ n _=>n|.alt _ n _=>n|.rep _ _ n=>n
def enW:Wd->Bool
 | .non=>false|.one _ m=>m|.both _ _ _ l=>l|.alt _ _ l=>l|.rep w _ _=>enW w
mutual
def stW:Wd->Bool->Nat->Wd×Bool
 | .non,_,_=>(.non,false)
 | .one s _,bg,c=>(.one s (bg && zc5 s c),bg && zc5 s c)
 | .both x y n _,bg,c=>(.both (stW x bg c).1 (stW y (bg && emW x || enW x) c).1 n ((stW y (bg && emW x || enW x) c).2 || (stW x bg c).2 && emW y),(stW y (bg && emW x || enW x) c).2 || (stW x bg c).2 && emW y)
 | .alt l n _,bg,c=>(.alt (stWs l bg c).1 n (stWs l bg c).2,(stWs l bg c).2)
 | .rep w lp n,bg,c=>(.rep (stW w (bg || lp && enW w) c).1 lp n,(stW w (bg || lp && enW w) c).2)
def stWs:List Wd->Bool->Nat->List Wd×Bool
 | [],_,_=>([],false)
 | w::l,bg,c=>((stW w bg c).1::(stWs l bg c).1,(stW w bg c).2 || (stWs l bg c).2)
end
mutual
def nxW:Wd->Bool->St4
 | .non,_=>st0
 | .one s _,bg=>if bg then s else st0
 | .both x y _ _,bg=>zbP (nxW x bg) (nxW y (bg && emW x || enW x))
 | .alt l _ _,bg=>nxWs l bg st0
 | .rep w lp _,bg=>nxW w (bg || lp && enW w)
def nxWs:List Wd->Bool->St4->St4
 | [],_,s=>s
 | w::l,bg,s=>nxWs l bg (zbP s (nxW w bg))
end
mutual
def FW:Wd->Nat
 | .non=>1|.one _ _=>2|.both a b _ _=>max (FW a) (FW b)+2|.alt l _ _=>FWs l+l.length+2|.rep w _ _=>FW w+2
def FWs:List Wd->Nat
 | []=>0|w::l=>max (FW w) (FWs l)
end
mutual
def RgW:Wd->Prop
 | .non=>True|.one s _=>RgS s|.both a b _ _=>RgW a/\RgW b|.alt l _ _=>RgWs l/\l.length<=2 ^ 40|.rep w _ _=>RgW w
def RgWs:List Wd->Prop
 | []=>True|w::l=>RgW w/\RgWs l
end
mutual
def At (bs:List Blk):Wd->Nat->Nat->V->Prop
 | .non,lo,hi,v=>lo<=hi/\v=.ifc 127 (.agg [])
 | .one s m,lo,hi,v=>∃ p,lo<=p/\p<hi/\v=.ifc 123 (.ptr p 0)/\nth bs p=some (.cells (yG s m) 125)
 | .both a b nl la,lo,hi,v=>∃ p m1 m2 va vb,At bs b lo m1 vb/\At bs a m1 m2 va/\m2<=p/\p<hi/\v=.ifc 131 (.ptr p 0)/\nth bs p=some (.cells (zaa va vb nl la) 133)
 | .alt l nl la,lo,hi,v=>∃ p m1 vs o,lo<=p/\p<m1/\Ats bs l m1 hi vs/\v=.ifc 134 (.ptr p 0)/\nth bs p=some (.cells (zbQ vs o nl la) 137)
 | .rep w lp nl,lo,hi,v=>∃ p m1 vw,At bs w lo m1 vw/\m1<=p/\p<hi/\v=.ifc 138 (.ptr p 0)/\nth bs p=some (.cells (zc6 vw lp nl) 140)
def Ats (bs:List Blk):List Wd->Nat->Nat->List V->Prop
 | [],lo,hi,vs=>lo<=hi/\vs=[]
 | w::l,lo,hi,vs=>∃ m v vs',vs=v::vs'/\At bs w lo m v/\Ats bs l m hi vs'
end
mutual
theorem At.le {bs:List Blk}:∀ {w:Wd} {lo hi:Nat} {v:V},At bs w lo hi v->lo<=hi
 | .non,_,_,_,h=>h.1
 | .one _ _,_,_,_,⟨p,h1,h2,_⟩=>by omega
 | .both _ _ _ _,_,_,_,⟨p,m1,m2,va,vb,h1,h2,h3,h4,_⟩=>by have:=h1.le;have:=h2.le;omega
 | .alt _ _ _,_,_,_,⟨p,m1,vs,o,h1,h2,h3,_⟩=>by have:=h3.le;omega
 | .rep _ _ _,_,_,_,⟨p,m1,vw,h1,h2,h3,_⟩=>by have:=h1.le;omega
theorem Ats.le {bs:List Blk}:∀ {l:List Wd} {lo hi:Nat} {vs:List V},Ats bs l lo hi vs->lo<=hi
 | [],_,_,_,h=>h.1
 | _::_,_,_,_,⟨m,v,vs',_,h1,h2⟩=>by have:=h1.le;have:=h2.le;omega
end
mutual
theorem At.frame {bs bs':List Blk}:∀ {w:Wd} {lo hi:Nat} {v:V},At bs w lo hi v->(∀ i,lo<=i->i<hi->nth bs' i=nth bs i)->At bs' w lo hi v
 | .non,_,_,_,h,_=>h
 | .one _ _,_,_,_,⟨p,h1,h2,h3,h4⟩,hf=>⟨p,h1,h2,h3,(hf p h1 h2).trans h4⟩
 | .both _ _ _ _,_,_,_,⟨p,m1,m2,va,vb,h1,h2,h3,h4,h5,h6⟩,hf=>by
  have l1:=h1.le;have l2:=h2.le;exact ⟨p,m1,m2,va,vb,h1.frame fun i a b=>hf i a (by omega),h2.frame fun i a b=>hf i (by omega) (by omega),h3,h4,h5,(hf p (by omega) h4).trans h6⟩
 | .alt _ _ _,_,_,_,⟨p,m1,vs,o,h1,h2,h3,h5,h6⟩,hf=>by
  have l1:=h3.le;exact ⟨p,m1,vs,o,h1,h2,h3.frame fun i a b=>hf i (by omega) b,h5,(hf p h1 (by omega)).trans h6⟩
 | .rep _ _ _,_,_,_,⟨p,m1,vw,h1,h2,h3,h5,h6⟩,hf=>by
  have l1:=h1.le;exact ⟨p,m1,vw,h1.frame fun i a b=>hf i a (by omega),h2,h3,h5,(hf p (by omega) h3).trans h6⟩
theorem Ats.frame {bs bs':List Blk}:∀ {l:List Wd} {lo hi:Nat} {vs:List V},Ats bs l lo hi vs->(∀ i,lo<=i->i<hi->nth bs' i=nth bs i)->Ats bs' l lo hi vs
 | [],_,_,_,h,_=>h
 | _::_,_,_,_,⟨m,v,vs',e,h1,h2⟩,hf=>by
  have l1:=h1.le;have l2:=h2.le;exact ⟨m,v,vs',e,h1.frame fun i a b=>hf i a (by omega),h2.frame fun i a b=>hf i (by omega) b⟩
end
mutual
theorem At.widen {bs:List Blk}:∀ {w:Wd} {lo hi lo' hi':Nat} {v:V},At bs w lo hi v->lo'<=lo->hi<=hi'->At bs w lo' hi' v
 | .non,_,_,_,_,_,h,a,b=>⟨by have:=h.1;omega,h.2⟩
 | .one _ _,_,_,_,_,_,⟨p,h1,h2,h3⟩,a,b=>⟨p,by omega,by omega,h3⟩
 | .both _ _ _ _,_,_,_,_,_,⟨p,m1,m2,va,vb,h1,h2,h3,h4,h5⟩,a,b=>⟨p,m1,m2,va,vb,h1.widen a (zAQ _),h2,h3,by omega,h5⟩
 | .alt _ _ _,_,_,_,_,_,⟨p,m1,vs,o,h1,h2,h3,h5⟩,a,b=>⟨p,m1,vs,o,by omega,h2,h3.widen (zAQ _) b,h5⟩
 | .rep _ _ _,_,_,_,_,_,⟨p,m1,vw,h1,h2,h3,h5⟩,a,b=>⟨p,m1,vw,h1.widen a (zAQ _),h2,by omega,h5⟩
theorem Ats.widen {bs:List Blk}:∀ {l:List Wd} {lo hi lo' hi':Nat} {vs:List V},Ats bs l lo hi vs->lo'<=lo->hi<=hi'->Ats bs l lo' hi' vs
 | [],_,_,_,_,_,h,a,b=>⟨by have:=h.1;omega,h.2⟩
 | _::_,_,_,_,_,_,⟨m,v,vs',e,h1,h2⟩,a,b=>⟨m,v,vs',e,h1.widen a (zAQ _),h2.widen (zAQ _) b⟩
end
theorem At.ifc {bs:List Blk}:∀ {w:Wd} {lo hi:Nat} {v:V},At bs w lo hi v->∃ t u,v=.ifc t u
 | .non,_,_,_,h=>⟨_,_,h.2⟩
 | .one _ _,_,_,_,⟨_p,_h1,_h2,h3,_h4⟩=>⟨_,_,h3⟩
 | .both _ _ _ _,_,_,_,⟨_p,_m1,_m2,_va,_vb,_h1,_h2,_h3,_h4,h5,_h6⟩=>⟨_,_,h5⟩
 | .alt _ _ _,_,_,_,⟨_p,_m1,_vs,_o,_h1,_h2,_h3,h5,_h6⟩=>⟨_,_,h5⟩
 | .rep _ _ _,_,_,_,⟨_p,_m1,_vw,_h1,_h2,_h3,h5,_h6⟩=>⟨_,_,h5⟩
theorem Ats.ifc {bs:List Blk}:∀ {l:List Wd} {lo hi:Nat} {vs:List V},Ats bs l lo hi vs->∀ v∈vs,∃ t u,v=.ifc t u
 | [],_,_,_,h,v,hv=>by rw [h.2] at hv;cases hv
 | _::_,_,_,_,⟨m,v,vs',e,h1,h2⟩,u,hu=>by
  subst e;rcases zAM.1 hu with rfl|hu
  ·exact h1.ifc
  ·exact h2.ifc u hu
theorem Ats.len {bs:List Blk}:∀ {l:List Wd} {lo hi:Nat} {vs:List V},Ats bs l lo hi vs->vs.length=l.length
 | [],_,_,_,h=>by rw [h.2];rfl
 | _::_,_,_,_,⟨m,v,vs',e,h1,h2⟩=>by subst e;simp [h2.len]
theorem Ats.at_ {bs:List Blk}:∀ {l:List Wd} {lo hi:Nat} {vs:List V} {k:Nat} {w:Wd},Ats bs l lo hi vs->l[k]?=some w->∃ m m' v,nth vs k=some v/\At bs w m m' v/\lo<=m/\m'<=hi /\
  ∀ bs' w',At bs' w' m m' v->(∀ i,¬ (m<=i/\i<m')->nth bs' i=nth bs i)->Ats bs' (l.set k w') lo hi vs
 | [],_,_,_,_,_,_,hk=>by simp at hk
 | x::l,lo,hi,_,0,w,⟨m,v,vs',e,h1,h2⟩,hk=>by
  simp only [zAt,zAA] at hk;subst hk;subst e;exact ⟨lo,m,v,rfl,h1,zAQ _,h2.le,fun bs' w' h3 hf=>⟨m,v,vs',rfl,h3,h2.frame fun i a b=>hf i (by omega)⟩⟩
 | x::l,lo,hi,_,k+1,w,⟨m,v,vs',e,h1,h2⟩,hk=>by
  subst e;obtain ⟨a,b,u,g1,g2,g3,g4,g5⟩:=h2.at_ (k:=k) (w:=w) (by simpa using hk)
  have l1:=h1.le;exact ⟨a,b,u,g1,g2,by omega,g4,fun bs' w' h3 hf=>⟨m,v,vs',rfl,h1.frame fun i c d=>hf i (by omega),g5 bs' w' h3 hf⟩⟩
theorem stWs_1:∀ (l:List Wd) (bg:Bool) (c:Nat),(stWs l bg c).1=l.map fun w=>(stW w bg c).1
 | [],_,_=>by simp [stWs]
 | w::l,bg,c=>by simp [stWs,stWs_1 l]
theorem stWs_2:∀ (l:List Wd) (bg:Bool) (c:Nat),(stWs l bg c).2=l.any fun w=>(stW w bg c).2
 | [],_,_=>by simp [stWs]
 | w::l,bg,c=>by simp [stWs,stWs_2 l]
theorem nxWs_eq:∀ (l:List Wd) (bg:Bool) (s:St4),nxWs l bg s=l.foldl (fun s w=>zbP s (nxW w bg)) s
 | [],_,_=>by simp [nxWs]
 | w::l,bg,s=>by simp [nxWs,nxWs_eq l]
theorem FWs_le:∀ {l:List Wd} {w:Wd},w∈l->FW w<=FWs l
 | x::l,w,h=>by
  simp only [FWs];rcases zAM.1 h with rfl|h
  ·omega
  ·have:=FWs_le h;omega
theorem RgWs.mem:∀ {l:List Wd} {w:Wd},RgWs l->w∈l->RgW w
 | x::l,w,hr,h=>by
  rcases zAM.1 h with rfl|h
  ·exact hr.1
  ·exact hr.2.mem h
mutual
theorem nx_rg:∀ (w:Wd) (bg:Bool),RgW w->RgS (nxW w bg)
 | .non,_,_=>by simp only [nxW];exact rg0
 | .one s _,bg,h=>by simp only [nxW];cases bg<;>first|exact rg0|exact h
 | .both x y _ _,bg,h=>by simp only [nxW];exact zpp (nx_rg x _ h.1) (nx_rg y _ h.2)
 | .alt l _ _,bg,h=>by simp only [nxW];exact nxs_rg l _ _ h.1 rg0
 | .rep w lp _,bg,h=>by simp only [nxW];exact nx_rg w _ h
theorem nxs_rg:∀ (l:List Wd) (bg:Bool) (s:St4),RgWs l->RgS s->RgS (nxWs l bg s)
 | [],_,_,_,hs=>by simp only [nxWs];exact hs
 | w::l,bg,s,h,hs=>by simp only [nxWs];exact nxs_rg l _ _ h.2 (zpp hs (nx_rg w _ h.1))
end
theorem rg_take:∀ {l:List Wd},RgWs l->∀ k,RgWs (l.take k)
 | [],_,k=>by simp [RgWs]
 | w::l,h,0=>by simp [RgWs]
 | w::l,h,k+1=>by simp only [List.take_succ_cons];exact ⟨h.1,rg_take h.2 k⟩
end Go.Proofs.YtlnijcffanjieaaGreatDoor
namespace Go.Proofs.YtlnijcffanjieaaGreatDoor
set_option maxRecDepth 100000
open Go Go.Vm
variable {gl:Gl}
theorem m127e:jm Tryz.prog 127 (.agg []) mEm=some (274,.agg []):=by kernel_rfl
theorem m127n:jm Tryz.prog 127 (.agg []) mEn=some (275,.agg []):=by kernel_rfl
theorem m127x:jm Tryz.prog 127 (.agg []) mNx=some (276,.agg []):=by kernel_rfl
theorem m127s:jm Tryz.prog 127 (.agg []) mSt=some (277,.agg []):=by kernel_rfl
theorem zqY (p:Nat):jm Tryz.prog 123 (.ptr p 0) mEm=some (270,.ptr p 0):=by kernel_rfl
theorem zqZ (p:Nat):jm Tryz.prog 123 (.ptr p 0) mEn=some (271,.ptr p 0):=by kernel_rfl
theorem zq0 (p:Nat):jm Tryz.prog 123 (.ptr p 0) mNx=some (272,.ptr p 0):=by kernel_rfl
theorem zq1 (p:Nat):jm Tryz.prog 123 (.ptr p 0) mSt=some (273,.ptr p 0):=by kernel_rfl
theorem zq2 (p:Nat):jm Tryz.prog 131 (.ptr p 0) mEm=some (278,.ptr p 0):=by kernel_rfl
theorem zq3 (p:Nat):jm Tryz.prog 131 (.ptr p 0) mEn=some (279,.ptr p 0):=by kernel_rfl
theorem zq4 (p:Nat):jm Tryz.prog 131 (.ptr p 0) mNx=some (280,.ptr p 0):=by kernel_rfl
theorem zq5 (p:Nat):jm Tryz.prog 131 (.ptr p 0) mSt=some (281,.ptr p 0):=by kernel_rfl
theorem zq6 (p:Nat):jm Tryz.prog 134 (.ptr p 0) mEm=some (283,.ptr p 0):=by kernel_rfl
theorem zq7 (p:Nat):jm Tryz.prog 134 (.ptr p 0) mEn=some (284,.ptr p 0):=by kernel_rfl
theorem zq8 (p:Nat):jm Tryz.prog 134 (.ptr p 0) mNx=some (285,.ptr p 0):=by kernel_rfl
theorem zq9 (p:Nat):jm Tryz.prog 134 (.ptr p 0) mSt=some (286,.ptr p 0):=by kernel_rfl
theorem zra (p:Nat):jm Tryz.prog 138 (.ptr p 0) mEm=some (287,.ptr p 0):=by kernel_rfl
theorem zrb (p:Nat):jm Tryz.prog 138 (.ptr p 0) mEn=some (288,.ptr p 0):=by kernel_rfl
theorem zrc (p:Nat):jm Tryz.prog 138 (.ptr p 0) mNx=some (289,.ptr p 0):=by kernel_rfl
theorem zrd (p:Nat):jm Tryz.prog 138 (.ptr p 0) mSt=some (290,.ptr p 0):=by kernel_rfl
theorem zdx (hg:GW gl) {w:Wd} {bs:List Blk} {lo hi:Nat} {v:V} (h:At bs w lo hi v) {n:Nat} (hn:1<=n) (es:List (Nat×Nat)):wM gl n mEm v [] ⟨bs,es⟩=some (.val (.bool (emW w)),⟨bs,es⟩):=by
 obtain ⟨n,rfl⟩:∃ k,n=k+1:=⟨n - 1,by omega⟩
 cases w with
 | non=>obtain ⟨_,rfl⟩:=h;exact jj m127e Tryz.func274 rfl rfl (zrK hg (_bg:=false) (_c:=0))
 | one s m=>obtain ⟨p,_,_,rfl,h4⟩:=h;exact jj (zqY p) Tryz.func270 rfl rfl (zrJ hg)
 | both a b nl la=>obtain ⟨p,m1,m2,va,vb,h1,h2,h3,h4,rfl,h6⟩:=h;exact jj (zq2 p) Tryz.func278 rfl rfl (zrE hg h6 rfl)
 | alt l nl la=>obtain ⟨p,m1,vs,o,h1,h2,h3,rfl,h6⟩:=h;exact jj (zq6 p) Tryz.func283 rfl rfl (zrG hg h6 rfl)
 | rep w lp nl=>obtain ⟨p,m1,vw,h1,h2,h3,rfl,h6⟩:=h;exact jj (zra p) Tryz.func287 rfl rfl (zrI hg h6 rfl)
theorem zit (hg:GW gl):∀ {w:Wd} {bs:List Blk} {lo hi:Nat} {v:V},At bs w lo hi v->∀ {n:Nat},FW w<=n->∀ (es:List (Nat×Nat)),wM gl n mEn v [] ⟨bs,es⟩=some (.val (.bool (enW w)),⟨bs,es⟩)
 | .non,bs,lo,hi,v,h,n,hn,es=>by
  obtain ⟨n,rfl⟩:∃ k,n=k+1:=⟨n - 1,by simp only [FW] at hn;omega⟩
  obtain ⟨_,rfl⟩:=h;exact jj m127n Tryz.func275 rfl rfl (zrL hg (_bg:=false) (_c:=0))
 | .one s m,bs,lo,hi,v,h,n,hn,es=>by
  obtain ⟨n,rfl⟩:∃ k,n=k+1:=⟨n - 1,by simp only [FW] at hn;omega⟩
  obtain ⟨p,_,_,rfl,h4⟩:=h;exact jj (zqZ p) Tryz.func271 rfl rfl (zrD hg h4 rfl)
 | .both a b nl la,bs,lo,hi,v,h,n,hn,es=>by
  obtain ⟨n,rfl⟩:∃ k,n=k+1:=⟨n - 1,by simp only [FW] at hn;omega⟩
  obtain ⟨p,m1,m2,va,vb,h1,h2,h3,h4,rfl,h6⟩:=h;exact jj (zq3 p) Tryz.func279 rfl rfl (zrF hg h6 rfl)
 | .alt l nl la,bs,lo,hi,v,h,n,hn,es=>by
  obtain ⟨n,rfl⟩:∃ k,n=k+1:=⟨n - 1,by simp only [FW] at hn;omega⟩
  obtain ⟨p,m1,vs,o,h1,h2,h3,rfl,h6⟩:=h;exact jj (zq7 p) Tryz.func284 rfl rfl (zrH hg h6 rfl)
 | .rep w lp nl,bs,lo,hi,v,h,n,hn,es=>by
  obtain ⟨n,rfl⟩:∃ k,n=k+1:=⟨n - 1,by simp only [FW] at hn;omega⟩
  simp only [FW] at hn;obtain ⟨p,m1,vw,h1,h2,h3,rfl,h6⟩:=h;obtain ⟨t,u,rfl⟩:=h1.ifc;exact jj (zrb p) Tryz.func288 rfl rfl (zrQ hg h6 rfl (zit hg h1 (by omega) []))
theorem zbR (w:Wd):1<=FW w:=by cases w<;>simp only [FW]<;>omega
theorem ziu {bs bs':List Blk} (hf:∀ i,i<bs.length->nth bs' i=nth bs i):bs.length<=bs'.length:=by
 rcases zAm bs'.length bs.length with hl|hl
 ·have e:=hf bs'.length hl;rw [zw,zw,zA0 (zAQ _),zAX hl] at e;cases e
 ·exact hl
theorem ziv (hg:GW gl):∀ (N:Nat) {w:Wd} {bs:List Blk} {lo hi:Nat} {v:V},At bs w lo hi v->RgW w->hi<=bs.length->FW w<=N->∀ {n:Nat},FW w<=n->∀ (bg:Bool) (es:List (Nat×Nat)),wM gl n mNx v [.bool bg] ⟨bs,es⟩=some (.val (stV (nxW w bg)),⟨bs,es⟩)
 | 0,w,bs,lo,hi,v,h,hr,hh,hN,n,hn,bg,es=>by have:=zbR w;omega
 | N+1,.non,bs,lo,hi,v,h,hr,hh,hN,n,hn,bg,es=>by
  obtain ⟨n,rfl⟩:∃ k,n=k+1:=⟨n - 1,by simp only [FW] at hn;omega⟩
  obtain ⟨_,rfl⟩:=h;exact jj m127x Tryz.func276 rfl rfl (zrP hg)
 | N+1,.one s m,bs,lo,hi,v,h,hr,hh,hN,n,hn,bg,es=>by
  obtain ⟨n,rfl⟩:∃ k,n=k+1:=⟨n - 1,by simp only [FW] at hn;omega⟩
  obtain ⟨p,_,_,rfl,h4⟩:=h;exact jj (zq0 p) Tryz.func272 rfl rfl (zrO hg h4)
 | N+1,.both a b nl la,bs,lo,hi,v,h,hr,hh,hN,n,hn,bg,es=>by
  simp only [FW] at hn hN;obtain ⟨n,rfl⟩:∃ k,n=k+2:=⟨n - 2,by omega⟩
  obtain ⟨p,m1,m2,va,vb,h1,h2,h3,h4,rfl,h6⟩:=h;obtain ⟨t,u,rfl⟩:=h2.ifc;obtain ⟨t',u',rfl⟩:=h1.ifc;have l1:=h1.le;have l2:=h2.le;have f1:∀ bs',(∀ i,i<bs.length->nth bs' i=nth bs i)->At bs' b lo m1 (.ifc t' u'):=fun bs' hf=>h1.frame fun i a b=>hf i (by omega)
  have f2:∀ bs',(∀ i,i<bs.length->nth bs' i=nth bs i)->At bs' a m1 m2 (.ifc t u):=fun bs' hf=>h2.frame fun i a b=>hf i (by omega)
  refine jj (zq4 p) Tryz.func280 rfl rfl ?_;simp only [nxW];refine zrU hg (sec:=bg && emW a || enW a) (nx_rg a _ hr.1) (nx_rg b _ hr.2) h6 (fun bs' hf=>?_) (fun bs' hf=>?_) (fun bs' hf=>?_)
  ·have:=ziu hf;exact zqW hg ((hf p (by omega)).trans h6) rfl (zdx hg (f2 bs' hf) (by have:=zbR a;omega) []) (zit hg (f2 bs' hf) (by omega) [])
  ·have:=ziu hf;exact ziv hg N (f2 bs' hf) hr.1 (by omega) (by omega) (by omega) bg []
  ·have:=ziu hf;exact ziv hg N (f1 bs' hf) hr.2 (by omega) (by omega) (by omega) _ []
 | N+1,.alt l nl la,bs,lo,hi,v,h,hr,hh,hN,n,hn,bg,es=>by
  simp only [FW] at hn hN;obtain ⟨n,rfl⟩:∃ k,n=k+2:=⟨n - 2,by omega⟩
  obtain ⟨p,m1,vs,o,h1,h2,h3,rfl,h6⟩:=h;have hlen:=h3.len;refine jj (zq8 p) Tryz.func285 rfl rfl ?_
  have key:=zrW hg (es:=es) (n:=n) (bg:=bg) h6 h3.ifc (fun k=>nxWs (l.take k) bg st0) (by simp [nxWs]) (fun k=>nxs_rg _ _ _ (rg_take hr.1 k) rg0) (by omega) (by have:=hr.2;omega) (fun k v bs' hv hf=>by
   have hk:k<l.length:=by
    rw [zw] at hv;have:=(zAI.1 hv).1;omega
   obtain ⟨w,hw⟩:∃ w,l[k]?=some w:=⟨l[k],by simp [hk]⟩
   have hm:w∈l:=zAg hw;have:=ziu hf;obtain ⟨a,b,v',g1,g2,g3,g4,_⟩:=(h3.frame (bs':=bs') fun i c d=>hf i (by omega)).at_ hw
   rw [hv] at g1;cases g1;have hF:=FWs_le hm;refine ⟨nxW w bg,ziv hg N g2 (hr.1.mem hm) (by omega) (by omega) (by omega) bg [],nx_rg w _ (hr.1.mem hm),?_⟩
   rw [nxWs_eq,nxWs_eq,List.take_add_one,hw]
   simp)
  rw [hlen] at key;simp only [nxW];rw [zBd] at key;exact key
 | N+1,.rep w lp nl,bs,lo,hi,v,h,hr,hh,hN,n,hn,bg,es=>by
  simp only [FW] at hn hN;obtain ⟨n,rfl⟩:∃ k,n=k+2:=⟨n - 2,by omega⟩
  obtain ⟨p,m1,vw,h1,h2,h3,rfl,h6⟩:=h;obtain ⟨t,u,rfl⟩:=h1.ifc;have l1:=h1.le;have f1:∀ bs',(∀ i,i<bs.length->nth bs' i=nth bs i)->At bs' w lo m1 (.ifc t u):=fun bs' hf=>h1.frame fun i a b=>hf i (by omega)
  refine jj (zrc p) Tryz.func289 rfl rfl ?_;simp only [nxW];refine zrT hg (n:=n+1) (sec:=bg || lp && enW w) h6 (fun bs' hf=>?_) (fun bs' hf=>?_)
  ·exact zqX hg ((hf p (by omega)).trans h6) rfl (zit hg (f1 bs' hf) (by omega) [])
  ·have:=ziu hf;exact ziv hg N (f1 bs' hf) hr (by omega) (by omega) (by omega) _ []
end Go.Proofs.YtlnijcffanjieaaGreatDoor
namespace Go.Proofs.YtlnijcffanjieaaGreatDoor
set_option maxRecDepth 100000
open Go Go.Vm
variable {gl:Gl}
theorem zre (w:Wd) (bg:Bool) (c:Nat):emW (stW w bg c).1=emW w:=by cases w<;>simp only [stW,emW]
def stL (l:List Wd) (bg:Bool) (c k:Nat):List Wd:=(l.take k).map (fun w=>(stW w bg c).1)++l.drop k
theorem zoP {l:List Wd} {bg:Bool} {c k:Nat} {w:Wd} (h:l[k]?=some w):(stL l bg c k)[k]?=some w:=by
 have hk:=(zAI.1 h).1;unfold stL;rw [zAh (by simp;omega),zBW]
 simp only [zAj,zBA];rw [show k+(k - min k l.length)=k by omega,h]
theorem zoQ {l:List Wd} {bg:Bool} {c k:Nat} {w:Wd} (h:l[k]?=some w):(stL l bg c k).set k (stW w bg c).1=stL l bg c (k+1):=by
 have hk:=(zAI.1 h).1;unfold stL;rw [List.set_append_right _ _ (by simp;omega)]
 simp only [zAj,zBA];rw [show k - min k l.length=0 by omega,zBI hk,zAG,List.take_add_one,h]
 simp
theorem zfZ (hg:GW gl):∀ (N:Nat) {w:Wd} {bs:List Blk} {lo hi:Nat} {v:V},At bs w lo hi v->RgW w->hi<=bs.length->FW w<=N->∀ {n:Nat},FW w<=n->∀ (bg:Bool) (c:Nat),c<256->∀ (es:List (Nat×Nat)),
  ∃ bs',wM gl n mSt v [.bool bg,.int .u8 (c:Nat)] ⟨bs,es⟩=some (.val (.bool (stW w bg c).2),⟨bs',es⟩)/\At bs' (stW w bg c).1 lo hi v/\bs'.length=bs.length/\∀ i,¬ (lo<=i/\i<hi)->nth bs' i=nth bs i
 | 0,w,bs,lo,hi,v,h,hr,hh,hN,n,hn,bg,c,hc,es=>by have:=zbR w;omega
 | N+1,.non,bs,lo,hi,v,h,hr,hh,hN,n,hn,bg,c,hc,es=>by
  obtain ⟨n,rfl⟩:∃ k,n=k+1:=⟨n - 1,by simp only [FW] at hn;omega⟩
  obtain ⟨h1,rfl⟩:=h;refine ⟨bs,?_,?_,rfl,fun _ _=>rfl⟩
  ·simp only [stW];exact jj m127s Tryz.func277 rfl rfl (zrM hg)
  ·simp only [stW];exact ⟨h1,rfl⟩
 | N+1,.one s m,bs,lo,hi,v,h,hr,hh,hN,n,hn,bg,c,hc,es=>by
  obtain ⟨n,rfl⟩:∃ k,n=k+2:=⟨n - 2,by simp only [FW] at hn;omega⟩
  obtain ⟨p,h1,h2,rfl,h4⟩:=h;have hlt:p<bs.length:=yp (H:=⟨bs,[]⟩) h4;simp only [stW];exact ⟨_,jj (zq1 p) Tryz.func273 rfl rfl (zrN hg hr hc h4),⟨p,h1,h2,rfl,jk hlt⟩,by simp,fun i hi=>qy (by omega)⟩
 | N+1,.both a b nl la,bs,lo,hi,v,h,hr,hh,hN,n,hn,bg,c,hc,es=>by
  simp only [FW] at hn hN;obtain ⟨n,rfl⟩:∃ k,n=k+2:=⟨n - 2,by omega⟩
  obtain ⟨p,m1,m2,va,vb,h1,h2,h3,h4,rfl,h6⟩:=h;obtain ⟨t,u,rfl⟩:=h2.ifc;obtain ⟨t',u',rfl⟩:=h1.ifc;have l1:=h1.le;have l2:=h2.le;have hlt:p<bs.length:=yp (H:=⟨bs,[]⟩) h6;obtain ⟨bs1,a1,a2,a3,a4⟩:=zfZ hg N h2 hr.1 (by omega) (by omega) (n:=n+1) (by omega) bg c hc []
  have h1':At bs1 b lo m1 (.ifc t' u'):=h1.frame fun i x y=>a4 i (by omega)
  obtain ⟨bs2,b1,b2,b3,b4⟩:=zfZ hg N h1' hr.2 (by omega) (by omega) (n:=n+1) (by omega) (bg && emW a || enW a) c hc []
  have ee:=zdx hg b2 (n:=n+1) (by omega) []
  rw [zre] at ee;have hp1:nth bs1 p=nth bs p:=a4 p (by omega)
  have hp2:nth bs2 p=nth bs p:=(b4 p (by omega)).trans hp1
  have key:=zrR hg (es:=es) (c:=(c:Int)) h6 rfl rfl (zqW hg h6 rfl (zdx hg h2 (by have:=zbR a;omega) []) (zit hg h2 (by omega) [])) a1 hp1 b1 hp2 ee (b3.trans a3)
  simp only [stW];refine ⟨_,jj (zq5 p) Tryz.func281 rfl rfl key,⟨p,m1,m2,.ifc t u,.ifc t' u',b2.frame fun i x y=>qy (by omega),?_,h3,h4,rfl,jk (by omega)⟩,by simp;omega,fun i hi=>?_⟩
  ·exact a2.frame fun i x y=>(qy (by omega)).trans (b4 i (by omega))
  ·rw [qy (by omega),b4 i (by omega),a4 i (by omega)]
 | N+1,.alt l nl la,bs,lo,hi,v,h,hr,hh,hN,n,hn,bg,c,hc,es=>by
  simp only [FW] at hn hN;obtain ⟨n,rfl⟩:∃ k,n=k+2:=⟨n - 2,by omega⟩
  obtain ⟨p,m1,vs,o,h1,h2,h3,rfl,h6⟩:=h;have hlen:=h3.len;have l1:=h3.le;have hlt:p<bs.length:=yp (H:=⟨bs,[]⟩) h6;have key:=zrV hg (es:=es) (n:=n+1) (bg:=bg) (c:=(c:Int)) h6 h3.ifc (fun k=>(l.take k).any fun w=>(stW w bg c).2)
   (fun k bs'=>Ats bs' (stL l bg c k) m1 hi vs/\∀ i,¬ (lo<=i/\i<hi)->nth bs' i=nth bs i) (by simp)
   (fun k bs' x hJ=>⟨hJ.1.frame fun i a b=>qy (by omega),fun i hi=>(qy (by omega)).trans (hJ.2 i hi)⟩)
   ⟨by simpa [stL] using h3,fun _ _=>rfl⟩ (by omega) (by have:=hr.2;omega) (fun k bs' v hv hJ hbl hbp=>by
    have hk:k<l.length:=by
     rw [zw] at hv;have:=(zAI.1 hv).1;omega
    obtain ⟨w,hw⟩:∃ w,l[k]?=some w:=⟨l[k],by simp [hk]⟩
    have hm:w∈l:=zAg hw;have hF:=FWs_le hm;obtain ⟨x,y,v',g1,g2,g3,g4,g5⟩:=hJ.1.at_ (zoP hw);rw [hv] at g1;cases g1;obtain ⟨bs1,c1,c2,c3,c4⟩:=zfZ hg N g2 (hr.1.mem hm) (by omega) (by omega) (n:=n+1) (by omega) bg c hc []
    refine ⟨bs1,_,c1,c4 p (by omega),c3,⟨?_,fun i hi=>(c4 i (by omega)).trans (hJ.2 i hi)⟩,?_⟩
    ·have:=g5 bs1 _ c2 c4
     rwa [zoQ hw] at this
    ·rw [List.take_add_one,hw];simp)
  obtain ⟨bs',k1,k2,k3,k4⟩:=key;rw [hlen] at k1 k2 k4;rw [zBd] at k1 k4;have e1:stL l bg c l.length=l.map fun w=>(stW w bg c).1:=by simp [stL]
  rw [e1] at k2;simp only [stW,stWs_1,stWs_2];exact ⟨bs',jj (zq9 p) Tryz.func286 rfl rfl k1,⟨p,m1,vs,o,h1,h2,k2.1,rfl,k4⟩,k3,k2.2⟩
 | N+1,.rep w lp nl,bs,lo,hi,v,h,hr,hh,hN,n,hn,bg,c,hc,es=>by
  simp only [FW] at hn hN;obtain ⟨n,rfl⟩:∃ k,n=k+2:=⟨n - 2,by omega⟩
  obtain ⟨p,m1,vw,h1,h2,h3,rfl,h6⟩:=h;obtain ⟨t,u,rfl⟩:=h1.ifc;have l1:=h1.le;obtain ⟨bs1,a1,a2,a3,a4⟩:=zfZ hg N h1 hr (by omega) (by omega) (n:=n+1) (by omega) (bg || lp && enW w) c hc []
  have hp1:nth bs1 p=nth bs p:=a4 p (by omega)
  simp only [stW];exact ⟨bs1,jj (zrd p) Tryz.func290 rfl rfl (zrS hg h6 (zqX hg h6 rfl (zit hg h1 (by omega) [])) a1 hp1 a3),⟨p,m1,.ifc t u,a2,h2,h3,rfl,hp1.trans h6⟩,a3,fun i hi=>a4 i (by omega)⟩
end Go.Proofs.YtlnijcffanjieaaGreatDoor
namespace Go.Proofs.YtlnijcffanjieaaGreatDoor
set_option maxRecDepth 100000
open Go Go.Vm
variable {gl:Gl}
def c1:Code->Code|.seq a _=>a|.cond _ a _=>a|.block _ c=>c|.loop c=>c|.rangeFunc _ _ a _=>a|c=>c
def c2:Code->Code|.seq _ b=>b|.cond _ _ b=>b|.rangeFunc _ _ _ b=>b|c=>c
noncomputable def K45:Code:=Tryz.f45.body.getD .skip
noncomputable def K45X:Code:=c1 (c2 (c1 (c2 K45)))
noncomputable def K45Z:Code:=c2 (c2 K45)
def zaD (P:Program) (rs:List ResultVar) (Post:V->Hp->Prop):Ex->St->Prop
 | .normal,⟨env,H,_,df⟩|.ret,⟨env,H,_,df⟩=>dropMarks df=[]/\∃ vs,zU P H env rs=some vs/\Post (tupOf vs) H
 | _,_=>False
theorem zlL {P:Program} {gl:Gl} {n:Nat} {f:FuncId} {fn:Func} {body:Code} {args:List V} {bs:List Blk} {es:List (Nat×Nat)} {Post:V->Hp->Prop} (hk:gl.hk f args=none) (hk2:∀ H,gl.hk2 n f args H=none) (hf:P.funcs[f]?=some fn) (hb:fn.body=some body)
  (h:go ⟨P,gl,callA P gl n,gl.uq⟩ n (zaD P fn.results.toList Post) [.c body] .normal ⟨args++List.replicate (fn.ntmps - args.length) (.tup []),⟨bs,[]⟩,[],[]⟩):∃ v H1,callA P gl (n+1) f args ⟨bs,es⟩=some (.ret v,jr bs.length es v.top H1)/\Post v H1:=by
 obtain ⟨ex,⟨env,H,lk,df⟩,h1,h2⟩:=y5 h;have key:endOf ex=some none->dropMarks df=[]->∀ vs,zU P H env fn.results.toList=some vs->callA P gl (n+1) f args ⟨bs,es⟩=some (.ret (tupOf vs),jr bs.length es (tupOf vs).top H):=by
  intro he hd vs hr;simp only [callA,hk,hk2,hf,hb,jn,fL_eq,h1,he,xK,hd,wN,hr,zN,wo]
 cases ex<;>simp only [zaD] at h2
 ·obtain ⟨h2,vs,h3,h4⟩:=h2;exact ⟨_,H,key rfl h2 vs h3,h4⟩
 ·obtain ⟨h2,vs,h3,h4⟩:=h2;exact ⟨_,H,key rfl h2 vs h3,h4⟩
def ecells:E->List V
 | .mk op pl s0 s1 s2 s3 text mn mx nl args=>[.int .i64 op,.int .i64 pl,.int .u64 s0,.int .u64 s1,.int .u64 s2,.int .u64 s3,.str text,.int .i64 mn,.int .i64 mx,jM nl (encs args)]
theorem qJ (e:E):enc e=.agg (ecells e):=by cases e;rfl
theorem qB (e:E):(ecells e).length=10:=by cases e;rfl
theorem y7 (e:E):(ecells e).map clr=ecells e:=by cases e;simp [ecells,jN,zq,qN]
theorem ziw (e:E):tops (ecells e)=0:=by have:=top_enc e;rwa [qJ] at this
section
variable {cx:Cx} {takes:List Tmp} {dst:Option Tmp} {type:TypeId} {pos:String} {after:Array Edge} {guard:Option (Nat×Bool)} {env:List V} {H:Hp} {lk:List (Nat×Nat)} {df:List (V×List V)}
theorem zas {P:Program} {g:Nat->Nat->Option V} {c:FuncId->List V->Hp->Option (Out×Hp)} {u:TypeId->Bool} {t:TypeId} {x:Operand} (ht:yL P t=false):Cx.op ⟨P,g,c,u⟩ takes ⟨dst,.makeInterface t x,type,pos,after,guard⟩ env H lk df=rdQ env H lk df ((peek env x).map (.ifc t)):=by
 simp only [Cx.op];refine vq ?_;simp only [qC,ht,Option.bind_eq_bind,zAD,if_false];cases peek env x<;>rfl
end
theorem if127:yL Tryz.prog 127=false:=by kernel_rfl
theorem if123:yL Tryz.prog 123=false:=by kernel_rfl
theorem if131:yL Tryz.prog 131=false:=by kernel_rfl
theorem if134:yL Tryz.prog 134=false:=by kernel_rfl
theorem if138:yL Tryz.prog 138=false:=by kernel_rfl
theorem zjt {env:List V}:kS Tryz.prog 127 #[] env=some (.agg []):=by kernel_rfl
theorem ag3:km Tryz.prog 3=some false:=by kernel_rfl
theorem ag25:km Tryz.prog 25=some false:=by kernel_rfl
theorem ag27:km Tryz.prog 27=some true:=by kernel_rfl
theorem sz27:qx Tryz.prog 27=some 10:=by kernel_rfl
theorem fo27_0:qR Tryz.prog 27 0=some 0:=by kernel_rfl
theorem fo27_2:qR Tryz.prog 27 2=some 2:=by kernel_rfl
theorem fo27_4:qR Tryz.prog 27 4=some 7:=by kernel_rfl
theorem fo27_5:qR Tryz.prog 27 5=some 8:=by kernel_rfl
theorem fo27_6:qR Tryz.prog 27 6=some 9:=by kernel_rfl
theorem z93:jp Tryz.prog 93=some .nili:=by kernel_rfl
theorem zpq {env:List V} {H:Hp} {lk:List (Nat×Nat)} {df:List (V×List V)}:zii 93 env H lk df (jp Tryz.prog 93)=some (.val (.ptr H.blks.length 0),⟨env,H.push (.cells [.nili] 93),lk,df⟩):=by
 rw [z93,zbo rfl];rfl
theorem zkE {H:Hp} {b:Nat} {v x:V} {env:List V} {lk:List (Nat×Nat)} {df:List (V×List V)} (h:H.get b=some (.cells [x] 93)) (hx:locked x=false) (h1:okC v=true) (h2:v.laid=[v]):jY Tryz.prog 93 H lk df (some (v,env)) (some (.ptr b 0))=some (.skip,⟨env,(H.set b (.cells [v] 93)).edge b v,lk,df⟩):=by
 rw [wD sz93 h h1 (by rw [h2];rfl) (show 0+1<=1 by decide) (za4 (cs:=[x]) (by simp [hx]) (show 0+1<=1 by decide))]
 rw [h2];rfl
def B1 (e:E) (bs:List Blk):List Blk:=bs++[.cells (ecells e) 27,.cells [.nili] 93]
theorem zcB (hg:GW gl) {n:Nat} {e:E} {op:Int} {bs:List Blk} {es:List (Nat×Nat)} {Post:V->Hp->Prop} (hop:nth (ecells e) 0=some (.int .i64 op))
  (h:∀ env,env.length=125->nth env 1=some (.ptr bs.length 0)->nth env 2=some (.ptr (bs.length+1) 0)->nth env 13=some (.int .i64 op)->go ⟨Tryz.prog,gl.g,callA Tryz.prog gl n,uqw⟩ n (zaD Tryz.prog [.cell 2 93] Post) [.c K45X,.eb 0,.c K45Z] .normal ⟨env,⟨B1 e bs,[]⟩,[],[]⟩) :
  ∃ v H1,callA Tryz.prog gl (n+1) 45 [enc e] ⟨bs,es⟩=some (.ret v,jr bs.length es v.top H1)/\Post v H1:=by
 refine zlL (hg.hk _ _ (by decide)) (fun H=>hg.hk2 _ _ _ _) Tryz.func45 (show Tryz.f45.body=some K45 from rfl) ?_
 rw [hg.uq];have hld:zM Tryz.prog ⟨B1 e bs,[]⟩ gl.g 3 (.ptr bs.length 0)=some (.int .i64 op):=qc (H:=⟨B1 e bs,[]⟩) ag3 za6 hop;have e1:K45=.seq (c1 K45) (.seq (.seq (c1 (c1 (c2 K45))) (.block 0 K45X)) K45Z):=by kernel_rfl
 rw [e1];simp only [ze];simp only [c1,c2,K45,Tryz.f45,zA2,zAS,List.length_nil];rw [qJ];have hrep:([V.agg (ecells e)]++List.replicate (125 - (0+1)) (V.tup []):List V)=V.agg (ecells e)::.tup []::.tup []::List.replicate 122 (V.tup []):=rfl;rw [hrep];refine zc (tk:=[]) (by kernel_rfl) ?_
 simp only [zl,go_os_nil,ze,q5,qa,zh,zW,opQ_val,zr,qd,zAc,zAS,List.length_nil,zAU,zAb,zAV,zAT,zi,zAG,zAH,jf (show okC (.agg (ecells e))=true from rfl),V.laid,y7,zpq]
 refine zc (tk:=[]) (by kernel_rfl) ?_
 have hB:bs++[Blk.cells (ecells e) 27,Blk.cells [V.nili] 93]=B1 e bs:=rfl;rw [hB];have hn9:∀ x:V,nth ((List.replicate 122 (V.tup [])).set 9 x) 9=some x:=fun x=>rfl;simp only [zl,go_os_nil,zO,zn,zg,peek,zb,opQ_val,zr,zq,zu,zAC,zAB,zm,zP,zAk,zi,zp,zAH,fo27_0,hn9,hld]
 refine h _ ?_ ?_ ?_ ?_
 ·simp []
 ·rfl
 ·rfl
 ·rfl
end Go.Proofs.YtlnijcffanjieaaGreatDoor
namespace Go.Proofs.YtlnijcffanjieaaGreatDoor
set_option maxRecDepth 100000
open Go Go.Vm
variable {gl:Gl}
mutual
def foW:E->Option Wd
 | .mk op _ s0 s1 s2 s3 _ mn mx _ args =>
  if op=2 then (if (s0,s1,s2,s3)=st0 then none else some (.one (s0,s1,s2,s3) false))
  else if op=5 then foCat args
  else if op=6 then (if (foAlt args).isEmpty then none else some (.alt (foAlt args) ((foAlt args).any emW) false))
  else if op=7 then (match foHead args with
   | some x=>some (.rep x (decide (mx<0)) (mn == 0 || emW x))
   | none=>if 0<mn then none else some .non)
  else some .non
def foCat:List E->Option Wd
 | []=>some .non
 | e::l=>match foCat l,foW e with
  | some w,some x=>some (.both x w (emW x && emW w) false)
  | _,_=>none
def foAlt:List E->List Wd
 | []=>[]
 | e::l=>match foW e with
  | some x=>x::foAlt l
  | none=>foAlt l
def foHead:List E->Option Wd
 | []=>none
 | e::_=>foW e
end
def Res (bs:List Blk) (lo:Nat):Option Wd->V->Prop
 | none,v=>v=.nili
 | some w,v=>∃ hi,hi<=bs.length/\At bs w lo hi v
def NewC (bs bs':List Blk):Prop:=∃ l,bs'=bs++l/\∀ x∈l,x.isCells=true
def zqa (bs:List Blk) (r:Option Wd) (v:V) (H:Hp):Prop:=NewC bs H.blks/\(∀ p∈H.edges,bs.length<=p.1)/\Res H.blks bs.length r v
def y8 (gl:Gl) (n:Nat) (e:E) (bs:List Blk) (es:List (Nat×Nat)):Prop :=
 ∃ v bs' es',callA Tryz.prog gl n 45 [enc e] ⟨bs,es⟩=some (.ret v,⟨bs',es'++es⟩)/\NewC bs bs'/\(∀ p∈es',bs.length<=p.1)/\Res bs' bs.length (foW e) v
theorem NewC.refl (bs:List Blk):NewC bs bs:=⟨[],by simp,by simp⟩
theorem NewC.trans {a b c:List Blk} (h:NewC a b) (k:NewC b c):NewC a c:=by
 obtain ⟨l,rfl,h1⟩:=h;obtain ⟨m,rfl,h2⟩:=k;refine ⟨l++m,by simp,fun x hx=>?_⟩
 rcases zAr.1 hx with hx|hx
 ·exact h1 x hx
 ·exact h2 x hx
theorem NewC.nth {a b:List Blk} (h:NewC a b) {i:Nat} (hi:i<a.length):nth b i=nth a i:=by
 obtain ⟨l,rfl,_⟩:=h;exact wz (es:=[]) (ls:=l) hi
theorem NewC.len {a b:List Blk} (h:NewC a b):a.length<=b.length:=by
 obtain ⟨l,rfl,_⟩:=h;simp
theorem NewC.push {a b:List Blk} (h:NewC a b) {cs:List V} {t:TypeId}:NewC a (b++[.cells cs t]):=h.trans ⟨[_],rfl,by simp [Blk.isCells]⟩
theorem NewC.set {a b:List Blk} (h:NewC a b) {i:Nat} {cs:List V} {t:TypeId} (hi:a.length<=i):NewC a (b.set i (.cells cs t)):=by
 obtain ⟨l,rfl,h1⟩:=h;refine ⟨l.set (i - a.length) (.cells cs t),by rw [List.set_append_right _ _ hi],fun x hx=>?_⟩
 rcases List.mem_or_eq_of_mem_set hx with hx|rfl
 ·exact h1 x hx
 ·rfl
theorem zeQ {n:Nat} {e:E} {bs:List Blk} {es:List (Nat×Nat)} (h:∃ v H1,callA Tryz.prog gl n 45 [enc e] ⟨bs,es⟩=some (.ret v,jr bs.length es v.top H1)/\zqa bs (foW e) v H1):y8 gl n e bs es:=by
 obtain ⟨v,⟨b1,e1⟩,h1,h2,h3,h4⟩:=h
 by_cases hc:(Nat.ble v.top bs.length && e1.all (fun e=>Nat.ble bs.length e.1 || Nat.ble e.2 bs.length))=true
 ·refine ⟨v,bs,[],?_,.refl _,by simp,?_⟩
  ·rw [h1];obtain ⟨l,hl,_⟩:=h2;simp only at hl;subst hl;have hf:e1.filter (fun e=>Nat.blt e.1 bs.length)=[]:=by
    rw [List.filter_eq_nil_iff];intro p hp hb;have:=h3 p hp;have:=zAn hb;omega
   simp only [jr,if_pos hc,hf,List.take_left]
  ·have ht:v.top<=bs.length:=by
    simp only [zAF] at hc;exact zAn hc.1
   revert h4;cases foW e with
   | none=>exact fun h=>h
   | some w =>
    rintro ⟨hi,k1,k2⟩;cases w with
    | non=>exact ⟨bs.length,zAQ _,zAQ _,k2.2⟩
    | one s m=>obtain ⟨p,g1,g2,rfl,g4⟩:=k2;simp only [V.top] at ht;omega
    | both a b nl la=>obtain ⟨p,m1,m2,va,vb,g1,g2,g3,g4,rfl,g6⟩:=k2;have:=g1.le;have:=g2.le;simp only [V.top] at ht;omega
    | alt l nl la=>obtain ⟨p,m1,vs,o,g1,g2,g3,rfl,g6⟩:=k2;simp only [V.top] at ht;omega
    | rep w lp nl=>obtain ⟨p,m1,vw,g1,g2,g3,rfl,g6⟩:=k2;have:=g1.le;simp only [V.top] at ht;omega
 ·refine ⟨v,b1,e1,?_,h2,h3,h4⟩;rw [h1];simp only [jr,if_neg hc]
theorem zeR {H:Hp} {v:V} {env:List V} {t b:Nat} (h:nth env t=some (.ptr b 0)) (hb:H.get b=some (.cells [v] 93)):zU Tryz.prog H env [.cell t 93]=some [clr v]:=by
 simp only [zU,h,qc ag93 hb (show nth [v] 0=some v from rfl)]
theorem zbS (e:E) (bs:List Blk):(B1 e bs).length=bs.length+2:=by simp [B1]
theorem xH (e:E) (bs:List Blk):NewC bs (B1 e bs):=⟨_,rfl,by simp [Blk.isCells]⟩
theorem zlM (e:E) (bs:List Blk):nth (B1 e bs) bs.length=some (.cells (ecells e) 27):=za6 (es:=[])
theorem zix (e:E) (bs:List Blk):nth (B1 e bs) (bs.length+1)=some (.cells [.nili] 93):=za5 (es:=[])
theorem zrX {x y:Operand} {a b c d:Int}:kU Tryz.prog .eql 24 x y (some (stV (a,b,c,d))) (some (stV st0))=some (.bool (decide ((a,b,c,d)=st0))):=by
 have hg:j9 Tryz.prog .eql 24 x y (stV (a,b,c,d)) (stV st0)=true:=by kernel_rfl
 simp only [kU,hg,if_true];have hb:vE Tryz.prog .eql 24 (stV (a,b,c,d)) (stV st0)=(eqA Tryz.prog 100 24 (stV (a,b,c,d)) (stV st0)).map .bool:=rfl;obtain ⟨e,he,hsz,hag,hu⟩:∃ e,Tryz.prog.underlying 24=some (.array 4 e)/\qx Tryz.prog e=some 1/\km Tryz.prog e=some false/\Tryz.prog.underlying e=some (.int .u64):=⟨_,Tryz.underlying24,by kernel_rfl,by kernel_rfl,by kernel_rfl⟩
 have hi:∀ m n:Int,eqA Tryz.prog 99 e (.int .u64 m) (.int .u64 n)=some (m == n):=fun m n=>by simp [eqA,hu,eqS]
 have he:eqA Tryz.prog 100 24 (stV (a,b,c,d)) (stV st0)=some (decide ((a,b,c,d)=st0)):=by
  have:eqA Tryz.prog 100 24 (stV (a,b,c,d)) (stV st0)=zf3 Tryz.prog (eqA Tryz.prog 99) e 1 [.int .u64 a,.int .u64 b,.int .u64 c,.int .u64 d] [.int .u64 0,.int .u64 0,.int .u64 0,.int .u64 0] 0 4:=by
   simp only [eqA,he,stV,hsz,st0]
  rw [this];simp only [zf3,wJ,hag,zdI,Nat.mul_one,zAU,hi,Option.bind_eq_bind,zAC,Nat.reduceAdd,nth]
  by_cases h1:a=0
  ·by_cases h2:b=0
   ·by_cases h3:c=0
    ·by_cases h4:d=0
     ·simp [h1,h2,h3,h4,st0]
     ·simp [h1,h2,h3,h4,st0]
    ·simp [h1,h2,h3,st0]
   ·simp [h1,h2,st0]
  ·simp [h1,st0]
 rw [hb,he];rfl
theorem zoR (hg:GW gl) {n:Nat} {e:E} {op:Int} {bs:List Blk} {es:List (Nat×Nat)} (hop:nth (ecells e) 0=some (.int .i64 op)) (h2:op≠2) (h5:op≠5) (h6:op≠6) (h7:op≠7) (hf:foW e=some .non):y8 gl (n+1) e bs es:=by
 refine zeQ (zcB hg hop fun env hel e1 e2 e13=>?_);have x2:(op == 2)=false:=beq_false_of_ne h2;have x5:(op == 5)=false:=beq_false_of_ne h5;have x6:(op == 6)=false:=beq_false_of_ne h6;have x7:(op == 7)=false:=beq_false_of_ne h7;simp only [K45X,K45Z,K45,Tryz.f45,zA2,c1,c2,ze];refine zc (tk:=[]) (by kernel_rfl) ?_
 simp only [zl,go_os_nil,ze,zv,zd,Nat.reduceEqDiff,peek,zh,ofVal,zt,zb,zf,opQ_val,zr,zq,zk,zAa,zD,zK,if_true,za,zAR,Nat.reduceLT,if_true,if_false,e13,hel,jH,x2,zAD,zBB,zBl]
 refine zc (tk:=[]) (by kernel_rfl) ?_
 simp only [zl,go_os_nil,ze,zv,zd,Nat.reduceEqDiff,peek,zh,ofVal,zt,zb,zf,opQ_val,zr,zq,zk,zAa,zD,zK,if_true,za,zAR,Nat.reduceLT,if_true,if_false,e13,hel,jH,x5,zAD,zBB,zBl]
 refine zc (tk:=[]) (by kernel_rfl) ?_
 simp only [zl,go_os_nil,ze,zv,zd,Nat.reduceEqDiff,peek,zh,ofVal,zt,zb,zf,opQ_val,zr,zq,zk,zAa,zD,zK,if_true,za,zAR,Nat.reduceLT,if_true,if_false,e13,hel,jH,x6,zAD,zBB,zBl]
 refine zc (tk:=[]) (by kernel_rfl) ?_
 simp only [zl,go_os_nil,ze,go_skip,qW,zv,zd,Nat.reduceEqDiff,peek,zh,ofVal,zt,zb,zf,opQ_val,zr,zq,zk,zAa,zD,zK,if_true,za,zAR,Nat.reduceLT,if_true,if_false,e13,hel,jH,x7,zAD,zBB,zBl]
 refine zc (tk:=[]) (by kernel_rfl) ?_
 have hst:∀ env:List V,jY Tryz.prog 93 ⟨B1 e bs,[]⟩ [] [] (some (.ifc 127 (.agg []),env)) (some (.ptr (bs.length+1) 0))=some (.skip,⟨env,⟨(B1 e bs).set (bs.length+1) (.cells [.ifc 127 (.agg [])] 93),[]⟩,[],[]⟩):=fun env=>by
  rw [zkE (H:=⟨B1 e bs,[]⟩) (zix e bs) rfl rfl rfl,vK rfl];rfl
 have hlen:bs.length+1<(B1 e bs).length:=by rw [zbS];omega
 simp only [zl,go_os_nil,zE,ql,Nat.reduceEqDiff,peek,zh,zb,opQ_val,opQ_skip,zr,jv,zu,zAB,if_true,za,zAR,Nat.reduceLT,if_true,if_false,e2,hel,zjt,zas if127,qz,hst]
 simp only [go_ret,zB,zaD]
 refine ⟨rfl,[.ifc 127 (.agg [])],?_,?_,fun p hp=>(by cases hp),?_⟩
 ·refine zeR (v:=.ifc 127 (.agg [])) (b:=bs.length+1) (by simp [za,e2]) ?_
  exact jk hlen
 ·exact (xH e bs).set (by omega)
 ·rw [hf];exact ⟨bs.length+2,by simp only [zAR,zbS];omega,by omega,rfl⟩
def b125:Option V->Option V
 | some v=>if okC v=true/\v.cells.length=4 then some (.agg (Vm.storeCells [.int .u64 0,.int .u64 0,.int .u64 0,.int .u64 0,.bool false] 0 v.cells)) else none
 | none=>none
theorem zqb {env:List V} {x:Operand}:kS Tryz.prog 125 #[(0,x)] env=b125 (peek env x):=by
 have e0:kS Tryz.prog 125 #[(0,x)] env=(vY [.int .u64 0,.int .u64 0,.int .u64 0,.int .u64 0,.bool false] (nth [(0,4),(4,1)]) env [(0,x)]).map .agg:=by kernel_rfl
 rw [e0];simp only [vY,Option.bind_eq_bind,zi];cases peek env x with
 | none=>rfl
 | some v =>
  simp only [zAC,b125,zAF,Nat.beq_eq,zAU]
  by_cases h1:okC v=true<;>by_cases h2:v.cells.length=4<;>simp [h1,h2]
theorem zoS {s:St4}:b125 (some (stV s))=some (.agg (yG s false)):=rfl
def edg (b:Nat) (v:V) (es:List (Nat×Nat)):List (Nat×Nat):=if v.top<=b+1 then es else (b,v.top)::es
theorem zkF {bs:List Blk} {es:List (Nat×Nat)} {b:Nat} {v:V}:Hp.edge ⟨bs,es⟩ b v=⟨bs,edg b v es⟩:=by
 simp only [Hp.edge,edg];split<;>rfl
theorem xw {m b:Nat} {v:V} {es:List (Nat×Nat)} (h:∀ p∈es,m<=p.1) (hb:m<=b):∀ p∈edg b v es,m<=p.1:=by
 intro p hp;unfold edg at hp;split at hp
 ·exact h p hp
 ·rcases zAM.1 hp with rfl|hp
  ·exact hb
  ·exact h p hp
theorem zat {bs:List Blk} {es:List (Nat×Nat)} {b:Nat} {v x:V} {env:List V} {lk:List (Nat×Nat)} {df:List (V×List V)} (h:nth bs b=some (.cells [x] 93)) (hx:locked x=false) (h1:okC v=true) (h2:v.laid=[v]):jY Tryz.prog 93 ⟨bs,es⟩ lk df (some (v,env)) (some (.ptr b 0))=some (.skip,⟨env,⟨bs.set b (.cells [v] 93),edg b v es⟩,lk,df⟩):=by
 rw [zkE (H:=⟨bs,es⟩) h hx h1 h2,Hp.set,zkF]
theorem zg0 {H1:Hp} {env:List V} {lk:List (Nat×Nat)} {df:List (V×List V)} {bs:List Blk} {r:Option Wd} (e2:nth env 2=some (.ptr (bs.length+1) 0)) (hd:dropMarks df=[]) (hc:H1.get (bs.length+1)=some (.cells [.nili] 93)) (hn:NewC bs H1.blks) (he:∀ p∈H1.edges,bs.length<=p.1) (hr:r=none):zaD Tryz.prog [.cell 2 93] (zqa bs r) .ret ⟨env,H1,lk,df⟩:=by
 simp only [zaD];exact ⟨hd,[.nili],zeR (b:=bs.length+1) e2 hc,hn,he,by rw [hr];exact rfl⟩
theorem zqc (hg:GW gl) {n:Nat} {pl s0 s1 s2 s3 mn mx:Int} {tx:List Nat} {nl:Bool} {args:List E} {bs:List Blk} {es:List (Nat×Nat)}:y8 gl (n+1) (.mk 2 pl s0 s1 s2 s3 tx mn mx nl args) bs es:=by
 refine zeQ (zcB hg (op:=2) rfl fun env hel e1 e2 e13=>?_);generalize hE:E.mk 2 pl s0 s1 s2 s3 tx mn mx nl args=e;have hec:ecells e=[.int .i64 2,.int .i64 pl,.int .u64 s0,.int .u64 s1,.int .u64 s2,.int .u64 s3,.str tx,.int .i64 mn,.int .i64 mx,jM nl (encs args)]:=by rw [<- hE];rfl
 have hfo:foW e=if (s0,s1,s2,s3)=st0 then none else some (.one (s0,s1,s2,s3) false):=by rw [<- hE];simp only [foW,if_true]
 have hld:zM Tryz.prog ⟨B1 e bs,[]⟩ gl.g 24 (.ptr bs.length 2)=some (stV (s0,s1,s2,s3)):=by
  rw [yi (H:=⟨B1 e bs,[]⟩) ag24 sz24 (zlM e bs) (by rw [qB];decide),hec]
  rfl
 simp only [K45X,K45Z,K45,Tryz.f45,zA2,c1,c2,ze];refine zc (tk:=[]) (by kernel_rfl) ?_
 simp only [zl,go_os_nil,ze,zv,zd,Nat.reduceEqDiff,peek,zh,ofVal,zt,zb,zf,opQ_val,zr,zq,zk,zAa,zD,zK,if_true,za,zAR,Nat.reduceLT,if_true,if_false,e13,hel,jH,beq_self_eq_true,zAa,zA3,zBB,zBx]
 refine zc (tk:=[]) (by kernel_rfl) ?_
 simp only [zl,go_os_nil,ze,go_skip,zn,zv,ql,zg,Nat.reduceEqDiff,peek,zb,opQ_val,zr,zk,zu,zAC,zAB,zm,zP,zAU,zD,zK,if_true,za,zAR,Nat.reduceLT,if_true,if_false,e1,hel,fo27_2,hld,wV,zfY,zrX]
 by_cases h0:(s0,s1,s2,s3)=st0
 ·refine .inl ⟨decide_eq_true h0,?_⟩;rw [if_pos h0] at hfo;refine zc (tk:=[]) (by kernel_rfl) ?_
  have hst:∀ env:List V,jY Tryz.prog 93 ⟨B1 e bs,[]⟩ [] [] (some (.nili,env)) (some (.ptr (bs.length+1) 0))=some (.skip,⟨env,⟨(B1 e bs).set (bs.length+1) (.cells [.nili] 93),[]⟩,[],[]⟩):=fun env=>by
   rw [zkE (H:=⟨B1 e bs,[]⟩) (zix e bs) rfl rfl rfl,vK rfl];rfl
  simp only [zl,go_os_nil,zE,Nat.reduceEqDiff,peek,zo,ofVal,opQ_skip,zr,zu,zAB,if_true,za,zAR,Nat.reduceLT,if_true,if_false,e2,hel,hst]
  simp only [go_ret,zB,qH,j8]
  exact zg0 (by simp [za,e2]) rfl (jk (by rw [zbS];omega)) ((xH e bs).set (by omega)) (fun p hp=>(by cases hp)) hfo
 ·refine .inr ⟨decide_eq_false h0,?_⟩;rw [if_neg h0] at hfo;have hl:(B1 e bs).length=bs.length+2:=zbS e bs;have hc1:nth (B1 e bs++[Blk.cells (yG (s0,s1,s2,s3) false) 125]) (bs.length+1)=some (.cells [.nili] 93):=(wz (es:=[]) (by omega)).trans (zix e bs)
  have hst:∀ (env:List V),jY Tryz.prog 93 ⟨B1 e bs++[Blk.cells (yG (s0,s1,s2,s3) false) 125],[]⟩ [] [] (some (.ifc 123 (.ptr (bs.length+2) 0),env)) (some (.ptr (bs.length+1) 0))=_:=fun env=>zat hc1 rfl rfl rfl;have hla:(V.agg (yG (s0,s1,s2,s3) false)).laid=yG (s0,s1,s2,s3) false:=rfl;refine zc (tk:=[]) (by kernel_rfl) ?_
  simp only [zl,go_os_nil,zn,q5,zE,ql,zg,Nat.reduceEqDiff,peek,zh,zW,zb,opQ_val,opQ_skip,zr,zu,zAC,zAB,zm,zP,qd,zAU,if_true,za,zAR,Nat.reduceLT,if_true,if_false,e1,e2,hel,hl,fo27_2,hld,wV,zqb,zoS,jf (show okC (.agg (yG (s0,s1,s2,s3) false))=true from rfl),hla,zas if123,qz,zW,hst]
  simp only [go_ret,zB,qH,j8,zaD]
  have hN:NewC bs (B1 e bs++[Blk.cells (yG (s0,s1,s2,s3) false) 125]):=(xH e bs).push;refine ⟨rfl,[.ifc 123 (.ptr (bs.length+2) 0)],?_,hN.set (by omega),xw (by simp) (by omega),?_⟩
  ·refine zeR (v:=.ifc 123 (.ptr (bs.length+2) 0)) (b:=bs.length+1) (by simp [za,e2]) ?_
   exact jk (by simp [hl])
  ·rw [hfo];refine ⟨bs.length+3,by simp [hl],bs.length+2,by omega,by omega,rfl,?_⟩
   rw [qy (by omega)]
   have:=Vm.get_at0 (bs:=B1 e bs) (ls:=[Blk.cells (yG (s0,s1,s2,s3) false) 125]) (es:=[]);rw [hl] at this;exact this
end Go.Proofs.YtlnijcffanjieaaGreatDoor
namespace Go.Proofs.YtlnijcffanjieaaGreatDoor
set_option maxRecDepth 100000
open Go Go.Vm
variable {gl:Gl}
theorem zkG {x:Operand} {t:Nat} {u:V}:kU Tryz.prog .neq 93 x (.const .nilIface) (some (.ifc t u)) (some .nili)=some (.bool true):=by kernel_rfl
theorem zkH {x:Operand}:kU Tryz.prog .neq 93 x (.const .nilIface) (some .nili) (some .nili)=some (.bool false):=by cases x<;>kernel_rfl
theorem zg1 {x:Operand} {t:Nat} {u:V}:kU Tryz.prog .eql 93 x (.const .nilIface) (some (.ifc t u)) (some .nili)=some (.bool false):=by kernel_rfl
theorem zg2 {x:Operand}:kU Tryz.prog .eql 93 x (.const .nilIface) (some .nili) (some .nili)=some (.bool true):=by cases x<;>kernel_rfl
theorem zpr {nl:Bool} {l:List E} {k:Nat} {a:E} (h:l[k]?=some a):qh Tryz.prog 25 (jM nl (encs l)) (k:Int)=some (.vp (ecells a)):=by
 have hk:¬ ((k:Int)<0):=by omega
 have hn:nth (encs l) k=some (enc a):=zeM h;have:jM nl (encs l)=.sl 10 (encs l) .no:=by
  rcases kX nl (encs l) with h'|⟨h',_⟩
  ·exact h'
  ·rw [h'] at hn;simp [nth] at hn
 rw [this];simp [qh,sz27,hk,hn,qJ,V.cells]
theorem zny {H:Hp} {g:Nat->Nat->Option V} {a:E}:zM Tryz.prog H g 27 (.vp (ecells a))=some (enc a):=by
 rw [zhW,wJ,ag27,sz27,zgB,if_pos (by rw [qB];decide),qJ]
 simp only [zBg];rw [zBC (by rw [qB];decide)]
def b140:Option V->Option V->Option V->Option V
 | some a,some b,some c=>if (okC a=true/\a.cells.length=1)/\(okC b=true/\b.cells.length=1)/\(okC c=true/\c.cells.length=1) then some (.agg (Vm.storeCells (Vm.storeCells (Vm.storeCells [.nili,.bool false,.bool false] 0 a.cells) 1 b.cells) 2 c.cells)) else none
 | _,_,_=>none
theorem stc_length:∀ (xs ys:List V) (k:Nat),(Vm.storeCells ys k xs).length=ys.length
 | [],_,_=>rfl
 | x::xs,ys,k=>by simp [Vm.storeCells,stc_length xs]
theorem znz {env:List V} {x y z:Operand}:kS Tryz.prog 140 #[(0,x),(1,y),(2,z)] env=b140 (peek env x) (peek env y) (peek env z):=by
 have e0:kS Tryz.prog 140 #[(0,x),(1,y),(2,z)] env=(vY [.nili,.bool false,.bool false] (nth [(0,1),(1,1),(2,1)]) env [(0,x),(1,y),(2,z)]).map .agg:=by kernel_rfl
 rw [e0];simp only [vY,Option.bind_eq_bind,zi,zp];cases peek env x with
 | none=>rfl
 | some a =>
  simp only [zAC,zAF,Nat.beq_eq,zAU,stc_length]
  by_cases h1:okC a=true/\a.cells.length=1
  ·cases peek env y with
   | none=>simp [b140]
   | some b =>
    by_cases h2:okC b=true/\b.cells.length=1
    ·cases peek env z with
     | none=>simp [b140]
     | some c =>
      by_cases h3:okC c=true/\c.cells.length=1
      ·simp [b140,h1,h2,h3]
      ·simp [b140,h1,h2,h3]
    ·cases peek env z<;>simp [b140,h1,h2]
  ·cases peek env y<;>cases peek env z<;>simp [b140,h1]
theorem znA {t:Nat} {u:V} {a b:Bool}:b140 (some (.ifc t u)) (some (.bool a)) (some (.bool b))=some (.agg (zc6 (.ifc t u) a b)):=rfl
theorem Res.ifc {bs:List Blk} {lo:Nat} {w:Wd} {v:V} (h:Res bs lo (some w) v):∃ t u,v=.ifc t u:=by
 obtain ⟨hi,_,h⟩:=h;exact h.ifc
theorem zqd (hg:GW gl) {n:Nat} {pl s0 s1 s2 s3 mn mx:Int} {tx:List Nat} {nl:Bool} {a:E} {l:List E} {bs:List Blk} {es:List (Nat×Nat)} (hn:1<=n) (ih:∀ bs es,y8 gl n a bs es):y8 gl (n+1) (.mk 7 pl s0 s1 s2 s3 tx mn mx nl (a::l)) bs es:=by
 refine zeQ (zcB hg (op:=7) rfl fun env hel e1 e2 e13=>?_);generalize hE:E.mk 7 pl s0 s1 s2 s3 tx mn mx nl (a::l)=e;have hec:ecells e=[.int .i64 7,.int .i64 pl,.int .u64 s0,.int .u64 s1,.int .u64 s2,.int .u64 s3,.str tx,.int .i64 mn,.int .i64 mx,jM nl (encs (a::l))]:=by rw [<- hE];rfl
 have hfo:foW e=(match foW a with|some x=>some (.rep x (decide (mx<0)) (mn == 0 || emW x))|none=>if 0<mn then none else some .non):=by rw [<- hE];simp only [foW,foHead];rfl
 have hB:(B1 e bs).length=bs.length+2:=zbS e bs;have hl9:∀ bs',NewC (B1 e bs) bs'->∀ es g,zM Tryz.prog ⟨bs',es⟩ g 25 (.ptr bs.length 9)=some (jM nl (encs (a::l))):=fun bs' hN es g=>qc (H:=⟨bs',es⟩) ag25 ((hN.nth (by omega)).trans (zlM e bs)) (by rw [hec];rfl)
 have hl8:∀ bs',NewC (B1 e bs) bs'->∀ es g,zM Tryz.prog ⟨bs',es⟩ g 3 (.ptr bs.length 8)=some (.int .i64 mx):=fun bs' hN es g=>qc (H:=⟨bs',es⟩) ag3 ((hN.nth (by omega)).trans (zlM e bs)) (by rw [hec];rfl)
 have hl7:∀ bs',NewC (B1 e bs) bs'->∀ es g,zM Tryz.prog ⟨bs',es⟩ g 3 (.ptr bs.length 7)=some (.int .i64 mn):=fun bs' hN es g=>qc (H:=⟨bs',es⟩) ag3 ((hN.nth (by omega)).trans (zlM e bs)) (by rw [hec];rfl)
 have hix:qh Tryz.prog 25 (jM nl (encs (a::l))) (0:Int)=some (.vp (ecells a)):=zpr (k:=0) rfl;obtain ⟨v,bs',es',hc0,hN,hes,hres⟩:=ih (B1 e bs) [];have hcall:Cx.callF ⟨Tryz.prog,gl.g,callA Tryz.prog gl n,uqw⟩ 45 [enc a] ⟨B1 e bs,[]⟩=some (.val v,⟨bs',es'++[]⟩):=qb Tryz.func45 rfl hc0;rw [zBG] at hcall;have hlen':=hN.len
 have hed:∀ v,∀ p∈edg (bs.length+1) v es',bs.length<=p.1:=fun v=>xw (fun p hp=>by have:=hes p hp;omega) (by omega)
 have hes':∀ p∈es',bs.length<=p.1:=fun p hp=>by have:=hes p hp;omega
 simp only [K45X,K45Z,K45,Tryz.f45,zA2,c1,c2,ze];refine zc (tk:=[]) (by kernel_rfl) ?_
 simp only [zl,go_os_nil,ze,zv,zd,Nat.reduceEqDiff,peek,zh,ofVal,zt,zb,zf,opQ_val,zr,zq,zk,zAa,zD,zK,if_true,za,zAR,Nat.reduceLT,if_true,if_false,e13,hel,jH,Int.reduceBEq,zAD,zBB,zBl,zAa]
 refine zc (tk:=[]) (by kernel_rfl) ?_
 simp only [zl,go_os_nil,ze,zv,zd,Nat.reduceEqDiff,peek,zh,ofVal,zt,zb,zf,opQ_val,zr,zq,zk,zAa,zD,zK,if_true,za,zAR,Nat.reduceLT,if_true,if_false,e13,hel,jH,Int.reduceBEq,zAD,zBB,zBl,zAa]
 refine zc (tk:=[]) (by kernel_rfl) ?_
 simp only [zl,go_os_nil,ze,zv,zd,Nat.reduceEqDiff,peek,zh,ofVal,zt,zb,zf,opQ_val,zr,zq,zk,zAa,zD,zK,if_true,za,zAR,Nat.reduceLT,if_true,if_false,e13,hel,jH,Int.reduceBEq,zAD,zBB,zBl,zAa]
 refine zc (tk:=[]) (by kernel_rfl) ?_
 simp only [zl,go_os_nil,ze,go_skip,qW,zv,zd,Nat.reduceEqDiff,peek,zh,ofVal,zt,zb,zf,opQ_val,zr,zq,zk,zAa,zD,zK,if_true,za,zAR,Nat.reduceLT,if_true,if_false,e13,hel,jH,beq_self_eq_true,zA3,zBB,zAa,zBx]
 refine zc (tk:=[]) (by kernel_rfl) ?_
 simp only [zl,go_os_nil,ze,zO,zn,zd,zg,zG,zV,Nat.reduceEqDiff,peeks,zN,peek,zh,ofVal,zb,opQ_val,zr,zu,jd,zAC,zAB,zm,zP,jz,zF,qo,zAW,zAi,zAU,if_true,za,zAR,Nat.reduceLT,if_true,if_false,e1,hel,fo27_6,hl9 _ (NewC.refl _),jN,jz,hix,zny,vz,hcall]
 cases hw:foW a with
 | none =>
  rw [hw] at hres hfo;simp only [Res] at hres;subst hres;simp only at hfo;have tki:∀ env t,kb env t (some V.nili)=some (.nili,env):=fun _ _=>rfl;simp only [tki,zf,opQ_val,zr];refine zc (tk:=[]) (by kernel_rfl) ?_
  simp only [zl,go_os_nil,ze,zj,zv,zd,Nat.reduceEqDiff,peek,zh,ofVal,zt,zb,zf,opQ_val,zr,zk,zAa,zD,zK,if_true,za,zAR,Nat.reduceLT,if_true,if_false,hel,clr_nili,zkH,zAD,zBB,zBl]
  refine zc (tk:=[]) (by kernel_rfl) ?_
  simp only [zl,go_os_nil,ze,go_skip,qW,zn,zv,zd,zg,Nat.reduceEqDiff,peek,zh,ofVal,zt,zb,zf,opQ_val,zr,zq,zk,zu,zAC,zAB,zm,zP,zAU,zD,zK,if_true,za,zAR,Nat.reduceLT,if_true,if_false,e1,hel,fo27_4,hl7 _ hN,wQ]
  have hce:nth bs' (bs.length+1)=some (.cells [.nili] 93):=(hN.nth (by omega)).trans (zix e bs)
  by_cases h0:0<mn
  ·refine .inl ⟨decide_eq_true h0,?_⟩;rw [if_pos h0] at hfo;have hst:∀ env:List V,jY Tryz.prog 93 ⟨bs',es'⟩ [] [] (some (.nili,env)) (some (.ptr (bs.length+1) 0))=_:=fun env=>zat hce rfl rfl rfl;refine zc (tk:=[]) (by kernel_rfl) ?_
   simp only [zl,go_os_nil,zE,Nat.reduceEqDiff,peek,zo,ofVal,opQ_skip,zr,zu,zAB,if_true,za,zAR,Nat.reduceLT,if_true,if_false,e2,hel,hst]
   simp only [go_ret,zB,qH,j8]
   exact zg0 (by simp [za,e2]) rfl (jk (by omega)) (((xH e bs).trans hN).set (by omega)) (hed .nili) hfo
  ·refine .inr ⟨decide_eq_false h0,?_⟩;rw [if_neg h0] at hfo;have hst:∀ env:List V,jY Tryz.prog 93 ⟨bs',es'⟩ [] [] (some (.ifc 127 (.agg []),env)) (some (.ptr (bs.length+1) 0))=_:=fun env=>zat hce rfl rfl rfl
   try simp only [go_skip,qW,ze]
   refine zc (tk:=[]) (by kernel_rfl) ?_
   simp only [zl,go_os_nil,zE,ql,Nat.reduceEqDiff,peek,zh,zb,opQ_val,opQ_skip,zr,jv,zu,zAB,if_true,za,zAR,Nat.reduceLT,if_true,if_false,e2,hel,zjt,zas if127,qz,hst]
   simp only [go_ret,zB,zaD]
   refine ⟨rfl,[.ifc 127 (.agg [])],?_,((xH e bs).trans hN).set (by omega),hed (.ifc 127 (.agg [])),?_⟩
   ·refine zeR (v:=.ifc 127 (.agg [])) (b:=bs.length+1) (by simp [za,e2]) ?_
    exact jk (by omega)
   ·rw [hfo];exact ⟨bs.length,by simp only [zAR];omega,zAQ _,rfl⟩
 | some x =>
  rw [hw] at hres hfo;obtain ⟨t,u,rfl⟩:=hres.ifc;simp only at hfo;simp only [qz,zf,opQ_val,zr];refine zc (tk:=[]) (by kernel_rfl) ?_
  simp only [zl,go_os_nil,ze,zj,zv,zd,Nat.reduceEqDiff,peek,zh,ofVal,zt,zb,zf,opQ_val,zr,zk,zAa,zD,zK,if_true,za,zAR,Nat.reduceLT,if_true,if_false,hel,qw,zkG,zAa,zA3,zBB,zBx]
  obtain ⟨hi,hhi,hat⟩:=hres;have hce:nth (bs'++[Blk.cells (zc6 (.ifc t u) (decide (mx<0)) (mn == 0 || emW x)) 140]) (bs.length+1)=some (.cells [.nili] 93):=(wz (es:=[]) (by omega)).trans ((hN.nth (by omega)).trans (zix e bs))
  have hst:∀ env:List V,jY Tryz.prog 93 ⟨bs'++[Blk.cells (zc6 (.ifc t u) (decide (mx<0)) (mn == 0 || emW x)) 140],es'⟩ [] [] (some (.ifc 138 (.ptr bs'.length 0),env)) (some (.ptr (bs.length+1) 0))=_:=fun env=>zat hce rfl rfl rfl
  have hem:=fun env=>kE (lk:=[]) (df:=[]) (env:=env) (zdx hg hat (n:=n) hn es');rw [hg.uq] at hem;have hla:∀ b c,(V.agg (zc6 (.ifc t u) b c)).laid=zc6 (.ifc t u) b c:=fun _ _=>rfl
  have fin:∀ env:List V,nth env 2=some (.ptr (bs.length+1) 0)->zaD Tryz.prog [.cell 2 93] (zqa bs (foW e)) .ret ⟨env,⟨(bs'++[Blk.cells (zc6 (.ifc t u) (decide (mx<0)) (mn == 0 || emW x)) 140]).set (bs.length+1) (.cells [.ifc 138 (.ptr bs'.length 0)] 93),edg (bs.length+1) (.ifc 138 (.ptr bs'.length 0)) es'⟩,[],[]⟩:=fun env h2=>by
   simp only [zaD];refine ⟨rfl,[.ifc 138 (.ptr bs'.length 0)],zeR (v:=.ifc 138 (.ptr bs'.length 0)) (b:=bs.length+1) h2 (jk (by simp;omega)),(((xH e bs).trans hN).push).set (by omega),hed _,?_⟩
   rw [hfo];refine ⟨bs'.length+1,by simp,bs'.length,hi,.ifc t u,?_,hhi,by omega,rfl,?_⟩
   ·refine (hat.frame fun i h3 h4=>?_).widen (lo':=bs.length) (by omega) (zAQ _)
    rw [qy (by omega)]
    exact wz (es:=[]) (by omega)
   ·rw [qy (by omega)]
    exact Vm.get_at0 (es:=[])
  have hpe:∀ env:List V,nth env 106=some (.ptr bs.length 8)->peek env (.tmp 106)=some (.ptr bs.length 8):=fun env h=>by simp [peek,h,clr]
  cases h0:(mn == 0) with
  | true =>
   rw [h0] at hst fin hce;simp only [zBs] at hst fin hce
   refine xZ [2] [] [(false,false,false,false),(false,false,false,false),(true,false,false,false),(false,false,false,false),(false,false,false,false),(false,false,false,false),(false,false,false,false),(false,false,false,false),(false,false,false,false),(false,true,false,false),(false,false,false,false),(false,false,false,false),(false,true,false,true),(false,false,false,false),(false,true,false,true)] (tk:=[]) (by kernel_rfl) (by kernel_rfl) ?_
   simp only [zj,zn,q5,zE,zv,zS,ql,zg,Nat.reduceEqDiff,peeks,peek,zh,ofVal,zW,zb,zr,zq,zk,zu,zAC,zAB,zm,zP,zAa,qd,zAU,jg,if_true,z6,za,zAR,Nat.reduceLT,if_true,if_false,ol_cons,zoJ,zQ,zi,zp,qm,wantB_ft,wG,ol_nil,olV_val,olV_valh,olV_valc,olV_skipc,wj,vX,kD,kQ,ag3,e1,e2,hel,fo27_5,fo27_4,hl8 _ hN,hl7 _ hN,qw,wA,jH,h0,qk,hem,z6,znz,znA,jf (show okC (.agg (zc6 (.ifc t u) (decide (mx<0)) true))=true from rfl),hla,zas if138,qz,zW,hst]
   simp only [go_ret,zB,qH,j8]
   exact fin _ (by simp [za,e2])
  | false =>
   rw [h0] at hst fin hce;simp only [zBK] at hst fin hce
   refine xZ [2] [] [(false,false,false,false),(false,false,false,false),(true,false,false,false),(false,false,false,false),(false,false,false,false),(false,false,false,false),(false,false,false,false),(false,false,false,false),(false,false,false,false),(false,true,false,false),(false,false,false,false),(false,false,false,false),(false,true,false,true),(false,false,false,false),(false,true,false,true)] (tk:=[]) (by kernel_rfl) (by kernel_rfl) ?_
   simp only [zj,zn,q5,zE,zv,zS,ql,zg,Nat.reduceEqDiff,peeks,peek,zh,ofVal,zW,zb,zr,zq,zk,zu,zAC,zAB,zm,zP,zAa,qd,zAU,jg,if_true,z7,za,zAR,Nat.reduceLT,if_true,if_false,ol_cons,zoJ,zQ,zi,zp,qm,wantB_ff,wx,ol_nil,olV_val,olV_valh,olV_valc,olV_skipc,wj,vX,kD,kQ,ag3,e1,e2,hel,fo27_5,fo27_4,hl8 _ hN,hl7 _ hN,qw,wA,jH,h0,qk,hem,z7,znz,znA,jf (show okC (.agg (zc6 (.ifc t u) (decide (mx<0)) (emW x)))=true from rfl),hla,zas if138,qz,zW,hst]
   refine ⟨⟨jZ (hpe _ (by simp [za,hel])) (hl8 _ hN _ _) rfl,trivial⟩,?_⟩
   simp only [go_ret,zB,qH,j8]
   exact fin _ (by simp [za,e2])
end Go.Proofs.YtlnijcffanjieaaGreatDoor
namespace Go.Proofs.YtlnijcffanjieaaGreatDoor
set_option maxRecDepth 100000
open Go Go.Vm
variable {gl:Gl}
theorem r135:RowT Tryz.prog 135 93 1 16:=⟨by kernel_rfl,by kernel_rfl,by kernel_rfl,by decide,by kernel_rfl,by kernel_rfl,by kernel_rfl⟩
theorem foAlt_eq:∀ (l:List E),foAlt l=l.filterMap foW
 | []=>by simp [foAlt]
 | a::l=>by
  simp only [foAlt,List.filterMap_cons,foAlt_eq l];cases foW a<;>rfl
theorem zeS {l:List E} {k:Nat} {a:E} (h:l[k]?=some a):foAlt (l.take (k+1))=foAlt (l.take k)++(foW a).toList:=by
 rw [foAlt_eq,foAlt_eq,List.take_add_one,h,List.filterMap_append];cases hw:foW a<;>simp [hw]
theorem Ats.snoc {bs:List Blk}:∀ {l:List Wd} {lo m m' hi:Nat} {vs:List V} {w:Wd} {v:V},Ats bs l lo m vs->At bs w m' hi v->m<=m'->Ats bs (l++[w]) lo hi (vs++[v])
 | [],_,_,_,_,_,_,_,h,h2,hm=>by
  rw [h.2];exact ⟨_,_,[],rfl,h2.widen (by have:=h.1;omega) (zAQ _),zAQ _,rfl⟩
 | x::l,_,_,_,_,_,_,_,⟨a,v',vs',e,h3,h4⟩,h2,hm=>by
  subst e;exact ⟨a,v',vs'++[_],rfl,h3,h4.snoc h2 hm⟩
def yH (vs:List V) (nl:Bool):List V:=[qZ 1 93 vs,.bool nl,.bool false]
theorem z27:∃ z,jp Tryz.prog 27=some z/\okC z=true/\z.cells.length=10/\z.cells.all (fun c=>!(locked c))=true:=by
 refine ⟨_,(show jp Tryz.prog 27=some (enc (.mk 0 0 0 0 0 0 [] 0 0 true [])) by kernel_rfl),rfl,rfl,rfl⟩
theorem zqe {env:List V}:kS Tryz.prog 137 #[] env=some (.agg [.snil,.bool false,.bool false]):=by kernel_rfl
theorem zps {bs:List Blk} {es:List (Nat×Nat)} {cs:List V} {a:E} {env:List V} {lk:List (Nat×Nat)} {df:List (V×List V)} (h1:cs.length=10) (h2:cs.all (fun c=>!(locked c))=true):jY Tryz.prog 27 ⟨bs++[.cells cs 27],es⟩ lk df (some (enc a,env)) (some (.ptr bs.length 0))=some (.skip,⟨env,⟨bs++[.cells (ecells a) 27],es⟩,lk,df⟩):=by
 have hl:(enc a).laid=ecells a:=by rw [qJ];exact y7 a
 rw [wD sz27 (H:=⟨bs++[Blk.cells cs 27],es⟩) (b:=bs.length) (off:=0) (cs:=cs) (ty:=27) Vm.get_at0 (by rw [qJ];rfl) (by rw [hl,qB]) (by omega) (za4 h2 (by omega)),vK (top_enc a),hl,zkz (by rw [qB,h1]),zbr]
theorem zpt {_env:List V} {_H:Hp} {_lk:List (Nat×Nat)} {_df:List (V×List V)}:∃ cs,(cs.length=10/\cs.all (fun c=>!(locked c))=true)/\∀ {env:List V} {H:Hp} {lk:List (Nat×Nat)} {df:List (V×List V)},zii 27 env H lk df (jp Tryz.prog 27)=some (.val (.ptr H.blks.length 0),⟨env,H.push (.cells cs 27),lk,df⟩):=by
 obtain ⟨z,h1,h2,h3,h4⟩:=z27;exact ⟨z.cells,⟨h3,h4⟩,by rw [h1];exact zbo h2⟩
theorem zrf {H:Hp} {nl:Bool} {l:List E}:wa Tryz.prog H 25 (jM nl (encs l))=some (l.length:Int):=by
 rcases kX nl (encs l) with h|⟨h0,h⟩<;>rw [h]
 ·simp [wa,encs_length]
 ·have:l=[]:=by cases l with|nil=>rfl|cons a l=>simp [encs] at h0
  subst this;simp [wa]
theorem ziy {env:List V} {t:Nat} {a:E}:kb env t (some (enc a))=some (enc a,env):=by rw [qJ];rfl
theorem zrg {bs:List Blk} {es:List (Nat×Nat)} {g:Nat->Nat->Option V} {a:E}:zM Tryz.prog ⟨bs++[.cells (ecells a) 27],es⟩ g 27 (.ptr bs.length 0)=some (enc a):=by
 rw [yi (H:=⟨bs++[Blk.cells (ecells a) 27],es⟩) (b:=bs.length) (off:=0) (cs:=ecells a) (ty:=27) ag27 sz27 Vm.get_at0 (by rw [qB];decide),qJ]
 simp only [zBg];rw [zBC (by rw [qB];decide)]
structure AI (e:E) (bs:List Blk) (l:List E) (k:Nat) (H:List Blk) (es:List (Nat×Nat)) (vs:List V):Prop where
 new:NewC (B1 e bs) H
 c2:nth H (bs.length+1)=some (.cells [.nili] 93)
 own:nth H (bs.length+2)=some (.cells (yH vs ((foAlt (l.take k)).any emW)) 137)
 ats:Ats H (foAlt (l.take k)) (bs.length+3) H.length vs
 ed:∀ p∈es,bs.length<=p.1
theorem zqf (hg:GW gl) {n:Nat} {pl s0 s1 s2 s3 mn mx:Int} {tx:List Nat} {nl:Bool} {l:List E} {bs:List Blk} {es:List (Nat×Nat)} (hn:l.length<n) (hll:l.length<=2 ^ 40) (ih:∀ a∈l,∀ bs es,y8 gl n a bs es):y8 gl (n+1) (.mk 6 pl s0 s1 s2 s3 tx mn mx nl l) bs es:=by
 refine zeQ (zcB hg (op:=6) rfl fun env hel e1 e2 e13=>?_);generalize hE:E.mk 6 pl s0 s1 s2 s3 tx mn mx nl l=e;have hec:ecells e=[.int .i64 6,.int .i64 pl,.int .u64 s0,.int .u64 s1,.int .u64 s2,.int .u64 s3,.str tx,.int .i64 mn,.int .i64 mx,jM nl (encs l)]:=by rw [<- hE];rfl
 have hfo:foW e=if (foAlt l).isEmpty then none else some (.alt (foAlt l) ((foAlt l).any emW) false):=by rw [<- hE];simp only [foW];rfl
 have hB:(B1 e bs).length=bs.length+2:=zbS e bs;have hl9:∀ bs',NewC (B1 e bs) bs'->∀ es g,zM Tryz.prog ⟨bs',es⟩ g 25 (.ptr bs.length 9)=some (jM nl (encs l)):=fun bs' hN es g=>qc (H:=⟨bs',es⟩) ag25 ((hN.nth (by omega)).trans (zlM e bs)) (by rw [hec];rfl)
 have hN0:NewC (B1 e bs) (B1 e bs++[Blk.cells (yH [] false) 137]):=(NewC.refl _).push;have hla:(V.agg (yH [] false)).laid=yH [] false:=rfl;have hbx:kS Tryz.prog 137 #[]=fun _=>some (.agg (yH [] false)):=by funext env;exact zqe
 simp only [K45X,K45Z,K45,Tryz.f45,zA2,c1,c2,ze];refine zc (tk:=[]) (by kernel_rfl) ?_
 simp only [zl,go_os_nil,ze,zv,zd,Nat.reduceEqDiff,peek,zh,ofVal,zt,zb,zf,opQ_val,zr,zq,zk,zAa,zD,zK,if_true,za,zAR,Nat.reduceLT,if_true,if_false,e13,hel,jH,Int.reduceBEq,zAD,zBB,zBl,zAa]
 refine zc (tk:=[]) (by kernel_rfl) ?_
 simp only [zl,go_os_nil,ze,zv,zd,Nat.reduceEqDiff,peek,zh,ofVal,zt,zb,zf,opQ_val,zr,zq,zk,zAa,zD,zK,if_true,za,zAR,Nat.reduceLT,if_true,if_false,e13,hel,jH,Int.reduceBEq,zAD,zBB,zBl,zAa]
 refine zc (tk:=[]) (by kernel_rfl) ?_
 simp only [zl,go_os_nil,ze,zv,zd,Nat.reduceEqDiff,peek,zh,ofVal,zt,zb,zf,opQ_val,zr,zq,zk,zAa,zD,zK,if_true,za,zAR,Nat.reduceLT,if_true,if_false,e13,hel,jH,beq_self_eq_true,zA3,zBB,zAa,zBx]
 refine zc (tk:=[]) (by kernel_rfl) ?_
 simp only [zl,go_os_nil,ze,q5,ql,zd,Nat.reduceEqDiff,zh,zW,qX,zb,zf,opQ_val,zr,qd,if_true,za,zAR,Nat.reduceLT,if_true,if_false,hel,hB,hbx,jf (show okC (.agg (yH [] false))=true from rfl),hla,zW,qX]
 refine zc (tk:=[]) (by kernel_rfl) ?_
 simp only [zl,go_os_nil,zO,zj,zn,zg,qq,Nat.reduceEqDiff,peek,ofVal,zb,opQ_val,zr,zu,zAC,zAB,zm,zP,zAU,if_true,za,zAR,Nat.reduceLT,if_true,if_false,e1,hel,fo27_6,hl9 _ hN0,jN,zrf]
 obtain ⟨cz,⟨hz1,hz2⟩,hz3⟩:=zpt (_env:=env) (_H:=⟨[],[]⟩) (_lk:=[]) (_df:=[]);have hAI0:AI e bs l 0 (B1 e bs++[Blk.cells (yH [] false) 137]) [] []:=by
  refine ⟨hN0,(wz (es:=[]) (by omega)).trans (zix e bs),?_,?_,by simp⟩
  ·have:=Vm.get_at0 (bs:=B1 e bs) (ls:=[Blk.cells (yH [] false) 137]) (es:=[]);rw [hB] at this;exact this
  ·refine ⟨?_,rfl⟩;simp [hB]
 refine yF (fun m s=>∃ k env H E vs,m+k=l.length/\s=⟨env,⟨H,E⟩,[],[]⟩/\env.length=125/\nth env 2=some (.ptr (bs.length+1) 0)/\nth env 7=some (.ptr (bs.length+2) 0)/\nth env 55=some (jM nl (encs l))/\nth env 56=some (.int .i64 l.length)/\nth env 57=some (.int .i64 (k:Nat))/\AI e bs l k H E vs) l.length hn ⟨0,_,_,[],[],rfl,rfl,?_,?_,?_,?_,?_,?_,hAI0⟩ ?_
 ·simp [hel]
 ·simp [za,e2]
 ·simp [za,hel]
 ·simp [za,hel]
 ·simp [za,hel]
 ·simp [za,hel]
 clear e1 e2 e13 hel hAI0 env;rintro m s ⟨k,env,H,E,vs,hmk,rfl,hel,e2,e7,e55,e56,e57,hA⟩;have hHl:bs.length+3<=H.length:=hA.ats.le;simp only [ze];refine zc (tk:=[]) (by kernel_rfl) ?_
 simp only [zl,go_os_nil,ze,go_skip,zO,zv,peek,zb,opQ_val,zr,zq,zk,zD,zK,if_true,za,Nat.reduceLT,if_true,e56,e57,hel,wA]
 by_cases hk:k<l.length
 ·refine .inl ⟨by simp;omega,?_⟩
  obtain ⟨a,ha⟩:∃ a,l[k]?=some a:=⟨l[k],by simp [hk]⟩
  have ham:a∈l:=zAg ha;have hix:qh Tryz.prog 25 (jM nl (encs l)) (k:Int)=some (.vp (ecells a)):=zpr ha
  try simp only [go_skip,ze,zO]
  refine zc (tk:=[]) (by kernel_rfl) ?_
  simp only [zl,go_os_nil,ze,zn,qa,zE,zG,Nat.reduceEqDiff,peek,zh,zb,opQ_val,opQ_skip,zr,zq,zu,jd,zAC,zAB,jz,qd,if_true,za,zAR,Nat.reduceLT,if_true,if_false,e55,e57,hel,jN,jz,hix,zny,vz,hz3,ziy,zps hz1 hz2]
  obtain ⟨v,bs',es',hc0,hN,hes,hres⟩:=ih a ham (H++[Blk.cells (ecells a) 27]) E;have hcall:Cx.callF ⟨Tryz.prog,gl.g,callA Tryz.prog gl n,uqw⟩ 45 [enc a] ⟨H++[Blk.cells (ecells a) 27],E⟩=some (.val v,⟨bs',es'++E⟩):=qb Tryz.func45 rfl hc0;have hNH:NewC H bs':=(NewC.push (NewC.refl H)).trans hN;have hHb:=hNH.len;have hE':∀ p∈es'++E,bs.length<=p.1:=fun p hp=>by
   rcases zAr.1 hp with hp|hp
   ·have:=hes p hp;simp at this;omega
   ·exact hA.ed p hp
  refine zc (tk:=[]) (by kernel_rfl) ?_
  simp only [zl,go_os_nil,ze,zn,zd,zV,Nat.reduceEqDiff,peeks,zN,peek,zh,zb,opQ_val,zr,zu,zAC,zAB,zF,qo,zAW,zAi,if_true,za,zAR,Nat.reduceLT,if_true,if_false,hel,zrg,vz,hcall]
  cases hw:foW a with
  | none =>
   rw [hw] at hres;simp only [Res] at hres;subst hres;have tki:∀ env t,kb env t (some V.nili)=some (.nili,env):=fun _ _=>rfl;simp only [tki,zf,opQ_val,zr];refine zc (tk:=[]) (by kernel_rfl) ?_
   simp only [zl,go_os_nil,ze,go_skip,qW,zj,zv,Nat.reduceEqDiff,peek,ofVal,zb,opQ_val,zr,zk,zAa,zD,zK,if_true,za,zAR,Nat.reduceLT,if_true,if_false,hel,clr_nili,zkH,zAD,zBB,zBl,zAa]
   refine zc (tk:=[]) (by kernel_rfl) ?_
   simp only [zl,go_os_nil,zj,zv,Nat.reduceEqDiff,peek,ofVal,zb,opQ_val,zr,zq,if_true,za,zAR,Nat.reduceLT,if_true,if_false,e57,hel,jL (show k<2 ^ 60 by omega),zB,thn_normal]
   have ht:foAlt (l.take (k+1))=foAlt (l.take k):=by rw [zeS ha,hw];simp
   refine ⟨l.length - (k+1),by omega,k+1,_,bs',es'++E,vs,by omega,rfl,?_,?_,?_,?_,?_,?_,?_⟩
   ·simp [hel]
   ·simp [za,e2]
   ·simp [za,e7]
   ·simp [za,e55]
   ·simp [za,e56]
   ·simp [za,hel]
   ·refine ⟨hA.new.trans hNH,(hNH.nth (by omega)).trans hA.c2,?_,?_,hE'⟩
    ·rw [ht];exact (hNH.nth (by omega)).trans hA.own
    ·rw [ht];exact (hA.ats.frame fun i a b=>hNH.nth b).widen (zAQ _) hHb
  | some x =>
   rw [hw] at hres;obtain ⟨t,u,rfl⟩:=hres.ifc;simp only [qz,zf,opQ_val,zr];refine zc (tk:=[]) (by kernel_rfl) ?_
   simp only [zl,go_os_nil,ze,go_skip,qW,zj,zv,Nat.reduceEqDiff,peek,ofVal,zb,opQ_val,zr,zk,zAa,zD,zK,if_true,za,zAR,Nat.reduceLT,if_true,if_false,hel,qw,zkG,zAa,zA3,zBB,zBx]
   obtain ⟨hi,hhi,hat⟩:=hres;have hvl:vs.length<=l.length:=by
    have:=hA.ats.len;rw [this,foAlt_eq];exact zAP (List.length_filterMap_le _ _) (by simp;omega)
   obtain ⟨nlk,hnlk⟩:∃ nlk,nlk=(foAlt (l.take k)).any emW:=⟨_,rfl⟩;have hown:nth bs' (bs.length+2)=some (.cells (yH vs nlk) 137):=by rw [hnlk];exact (hNH.nth (by omega)).trans hA.own
   have hlod:∀ env,zfl Tryz.prog 135 env ⟨bs',es'++E⟩ [] [] (some (.ptr (bs.length+2) 0))=some (.val (qZ 1 93 vs),⟨env,⟨bs'.set (bs.length+2) (.cells ((yH vs nlk).set 0 (lkL 1 vs)) 137),es'++E⟩,zin (bs.length+2) 0 vs,[]⟩):=fun env=>zno (H:=⟨bs',es'++E⟩) ag135 hown rfl;obtain ⟨HL,hHL⟩:∃ HL,HL=bs'.set (bs.length+2) (.cells ((yH vs nlk).set 0 (lkL 1 vs)) 137):=⟨_,rfl⟩;rw [<- hHL] at hlod
   have gL:nth HL (bs.length+2)=some (.cells ((yH vs nlk).set 0 (lkL 1 vs)) 137):=by rw [hHL,jk (by omega)]
   have hbsl:=r135.bsl (v:=.ifc t u) rfl rfl;have happ:∀ H,jD Tryz.prog H 135 (qZ 1 93 vs) (.sl 1 [.ifc t u] .no)=some (qZ 1 93 (vs++[.ifc t u])):=fun H=>zeJ r135 (by simp) (roomA_of (by simp;omega) (by simp;omega))
   have hst:∀ env,jY Tryz.prog 135 ⟨HL,es'++E⟩ (zin (bs.length+2) 0 vs) [] (some (qZ 1 93 (vs++[.ifc t u]),env)) (some (.ptr (bs.length+2) 0))=some (.skip,⟨env,⟨HL.set (bs.length+2) (.cells (yH (vs++[.ifc t u]) nlk) 137),edg (bs.length+2) (qZ 1 93 (vs++[.ifc t u])) (es'++E)⟩,zin (bs.length+2) 0 vs,[]⟩):=fun env=>by
    rw [wD r135.st (H:=⟨HL,es'++E⟩) gL zoK (by rw [zio];rfl) (by simp [yH]) (znp (by simp [yH])),Hp.set,zkF]
    simp only [zio,Vm.storeCells,List.set_set];rfl
   have hcls:clr (V.sl 1 [V.ifc t u] (.yes 93))=.sl 1 [.ifc t u] .no:=rfl;refine zc (tk:=[69]) (by kernel_rfl) ?_
   simp only [zl,go_os_nil,jh,q7,zE,zy,zg,jI,ne_eq,Nat.reduceEqDiff,zAz,peek,zh,q8,zb,opQ_val,opQ_skip,zr,zu,zAC,derefA,zm,zP,zAk,if_true,za,zAR,Nat.reduceLT,if_true,if_false,e7,hel,fo137_0,hlod,qw,hbsl,hcls,zgA,happ,hst,xS (cx:=⟨Tryz.prog,gl.g,callA Tryz.prog gl n,uqw⟩) (show uqT Tryz.prog uqw 135=false by kernel_rfl)]
   obtain ⟨H2,hH2⟩:∃ H2,H2=HL.set (bs.length+2) (.cells (yH (vs++[.ifc t u]) nlk) 137):=⟨_,rfl⟩;obtain ⟨E2,hE2⟩:∃ E2,E2=edg (bs.length+2) (qZ 1 93 (vs++[.ifc t u])) (es'++E):=⟨_,rfl⟩;have g2:nth H2 (bs.length+2)=some (.cells (yH (vs++[.ifc t u]) nlk) 137):=by rw [hH2,jk (by rw [hHL,zAR];omega)]
   have h2l:H2.length=bs'.length:=by rw [hH2,hHL];simp
   have h2n:∀ i,i≠bs.length+2->nth H2 i=nth bs' i:=fun i hi=>by rw [hH2,qy (Ne.symm hi),hHL,qy (Ne.symm hi)]
   have hE2':∀ p∈E2,bs.length<=p.1:=by rw [hE2];exact xw hE' (by omega)
   rw [<- hH2,<- hE2];have hat2:At H2 x (H.length+1) hi (.ifc t u):=by
    have:=hat.frame (bs':=H2) fun i a b=>h2n i (by simp at a;omega)
    simpa using this
   have hl1:zM Tryz.prog ⟨H2,E2⟩ gl.g 4 (.ptr (bs.length+2) 1)=some (.bool nlk):=qc (H:=⟨H2,E2⟩) ag4 g2 rfl;have hem:=fun env=>kE (lk:=[]) (df:=[]) (env:=env) (zdx hg hat2 (n:=n) (by omega) E2)
   rw [hg.uq] at hem;have hst2:∀ (env:List V) (b:Bool),jY Tryz.prog 4 ⟨H2,E2⟩ [] [] (some (.bool b,env)) (some (.ptr (bs.length+2) 1))=some (.skip,⟨env,⟨H2.set (bs.length+2) (.cells (yH (vs++[.ifc t u]) b) 137),E2⟩,[],[]⟩):=fun env b=>by
    rw [wD sz4 (H:=⟨H2,E2⟩) g2 rfl rfl (by simp [yH]) (za4 (by cases vs<;>rfl) (by simp [yH]))]
    rw [zbq];rfl
   have ht:foAlt (l.take (k+1))=foAlt (l.take k)++[x]:=by rw [zeS ha,hw];rfl
   have fin:∀ env:List V,env.length=125->nth env 2=some (.ptr (bs.length+1) 0)->nth env 7=some (.ptr (bs.length+2) 0)->nth env 55=some (jM nl (encs l))->nth env 56=some (.int .i64 l.length)->nth env 57=some (.int .i64 ((k+1:Nat):Int))->∃ i,i<m/\∃ k env' H E vs',i+k=l.length/\(⟨env,⟨H2.set (bs.length+2) (.cells (yH (vs++[.ifc t u]) (nlk || emW x)) 137),E2⟩,[],[]⟩:St)=⟨env',⟨H,E⟩,[],[]⟩/\env'.length=125/\nth env' 2=some (.ptr (bs.length+1) 0)/\nth env' 7=some (.ptr (bs.length+2) 0)/\nth env' 55=some (jM nl (encs l))/\nth env' 56=some (.int .i64 l.length)/\nth env' 57=some (.int .i64 (k:Nat))/\AI e bs l k H E vs':=by
    intro env g0 g2' g7 g55 g56 g57;refine ⟨m - 1,by omega,k+1,env,_,E2,vs++[.ifc t u],by omega,rfl,g0,g2',g7,g55,g56,g57,?_⟩
    have hnw:NewC (B1 e bs) (H2.set (bs.length+2) (.cells (yH (vs++[.ifc t u]) (nlk || emW x)) 137)):=by
     rw [hH2,hHL];have hq:=hA.new.trans hNH;exact ((hq.set (by omega)).set (by omega)).set (by omega)
    refine ⟨hnw,?_,?_,?_,hE2'⟩
    ·rw [qy (by omega),h2n _ (by omega)];exact (hNH.nth (by omega)).trans hA.c2
    ·rw [jk (by omega),ht,List.any_append,<- hnlk];simp
    ·rw [ht,zAR,h2l];have f1:Ats (H2.set (bs.length+2) (.cells (yH (vs++[.ifc t u]) (nlk || emW x)) 137)) (foAlt (l.take k)) (bs.length+3) H.length vs:=hA.ats.frame fun i a b=>by rw [qy (by omega),h2n i (by omega)];exact hNH.nth b
     have f2:At (H2.set (bs.length+2) (.cells (yH (vs++[.ifc t u]) (nlk || emW x)) 137)) x (H.length+1) hi (.ifc t u):=hat2.frame fun i a b=>qy (by omega)
     exact f1.snoc (f2.widen (zAQ _) hhi) (by omega)
   refine zc (tk:=[]) (by kernel_rfl) ?_
   cases hnb:nlk with
   | true =>
    rw [hnb] at hl1 fin;simp only [zBs] at fin;simp only [zl,go_os_nil,qW,zj,zn,zE,zS,zy,zg,Nat.reduceEqDiff,peeks,peek,zh,ofVal,zt,zb,opQ_val,opQ_skip,zr,zk,zu,zAC,zAB,derefA,zm,zP,zAU,if_true,z6,za,zAR,Nat.reduceLT,if_true,if_false,jb,zQ,zi,zp,qm,wantB_ft,wG,e7,hel,fo137_1,hl1,qk,hem,qw,z6,hst2]
    refine zc (tk:=[]) (by kernel_rfl) ?_
    simp only [zl,go_os_nil,zj,zv,Nat.reduceEqDiff,peek,ofVal,zb,opQ_val,zr,zq,if_true,za,zAR,Nat.reduceLT,if_true,if_false,e57,hel,jL (show k<2 ^ 60 by omega),zB,thn_normal]
    refine fin _ ?_ ?_ ?_ ?_ ?_ ?_
    ·simp [hel]
    ·simp [za,e2]
    ·simp [za,e7]
    ·simp [za,e55]
    ·simp [za,e56]
    ·simp [za,hel]
   | false =>
    rw [hnb] at hl1 fin;simp only [zBK] at fin;simp only [zl,go_os_nil,qW,zj,zn,zE,zS,zy,zg,Nat.reduceEqDiff,peeks,peek,zh,ofVal,zt,zb,opQ_val,opQ_skip,zr,zk,zu,zAC,zAB,derefA,zm,zP,zAU,if_true,z7,za,zAR,Nat.reduceLT,if_true,if_false,jb,zQ,zi,zp,qm,wantB_ff,wx,e7,hel,fo137_1,hl1,qk,hem,qw,z7,hst2]
    refine zc (tk:=[]) (by kernel_rfl) ?_
    simp only [zl,go_os_nil,zj,zv,Nat.reduceEqDiff,peek,ofVal,zb,opQ_val,zr,zq,if_true,za,zAR,Nat.reduceLT,if_true,if_false,e57,hel,jL (show k<2 ^ 60 by omega),zB,thn_normal]
    refine fin _ ?_ ?_ ?_ ?_ ?_ ?_
    ·simp [hel]
    ·simp [za,e2]
    ·simp [za,e7]
    ·simp [za,e55]
    ·simp [za,e56]
    ·simp [za,hel]
 ·refine .inr ⟨by simp;omega,?_⟩
  obtain rfl:k=l.length:=by omega
  have hlv:vs.length=(foAlt l).length:=by have:=hA.ats.len;rwa [zBd] at this
  simp only [yE,wC,kW,zB,thn_exit,ze,zBO,if_true,zB];have hld:zM Tryz.prog ⟨H,E⟩ gl.g 135 (.ptr (bs.length+2) 0)=some (qZ 1 93 vs):=qc (H:=⟨H,E⟩) ag135 hA.own rfl;refine zc (tk:=[]) (by kernel_rfl) ?_
  simp only [zl,go_os_nil,ze,go_skip,zj,zn,zv,zy,zg,qq,Nat.reduceEqDiff,peek,ofVal,zb,opQ_val,zr,zq,zk,zu,jy,zAC,zAB,derefA,zm,zP,zAk,zD,zK,if_true,za,zAR,Nat.reduceLT,if_true,if_false,e7,hel,fo137_0,hld,jy,znn u135,jH]
  by_cases h0:foAlt l=[]
  ·have hv0:vs=[]:=by cases vs with|nil=>rfl|cons a b=>rw [h0] at hlv;simp at hlv
   subst hv0;refine .inl ⟨rfl,?_⟩;rw [h0] at hfo;have hst:∀ env:List V,jY Tryz.prog 93 ⟨H,E⟩ [] [] (some (.nili,env)) (some (.ptr (bs.length+1) 0))=_:=fun env=>zat hA.c2 rfl rfl rfl;refine zc (tk:=[]) (by kernel_rfl) ?_
   simp only [zl,go_os_nil,zE,Nat.reduceEqDiff,peek,zo,ofVal,opQ_skip,zr,zu,zAB,List.length_nil,if_true,za,zAR,Nat.reduceLT,if_true,if_false,e2,hel,hst]
   simp only [go_ret,zB,qH,j8]
   exact zg0 (by simp [za,e2]) rfl (jk (by omega)) (((xH e bs).trans hA.new).set (by omega)) (xw (b:=bs.length+1) (v:=.nili) hA.ed (by omega)) hfo
  ·have hv0:(vs.length:Int)≠0:=by
    cases hf:foAlt l with
    | nil=>exact absurd hf h0
    | cons a b=>rw [hf] at hlv;simp at hlv;omega
   refine .inr ⟨beq_false_of_ne hv0,?_⟩;have hfo':foW e=some (.alt (foAlt l) ((foAlt l).any emW) false):=by
    rw [hfo,if_neg (by cases hf:foAlt l with|nil=>exact absurd hf h0|cons a b=>simp)]
   have hst:∀ env:List V,jY Tryz.prog 93 ⟨H,E⟩ [] [] (some (.ifc 134 (.ptr (bs.length+2) 0),env)) (some (.ptr (bs.length+1) 0))=_:=fun env=>zat hA.c2 rfl rfl rfl;refine zc (tk:=[]) (by kernel_rfl) ?_
   simp only [zl,go_os_nil,zj,zE,Nat.reduceEqDiff,peek,zh,zb,opQ_val,opQ_skip,zr,zu,zAB,if_true,za,zAR,Nat.reduceLT,if_true,if_false,e2,e7,hel,zas if134,qz,hst]
   simp only [go_ret,zB,qH,j8,zaD]
   refine ⟨rfl,[.ifc 134 (.ptr (bs.length+2) 0)],zeR (v:=.ifc 134 (.ptr (bs.length+2) 0)) (b:=bs.length+1) (by simp [za,e2]) (jk (by omega)),((xH e bs).trans hA.new).set (by omega),xw (b:=bs.length+1) (v:=.ifc 134 (.ptr (bs.length+2) 0)) hA.ed (by omega),?_⟩
   rw [hfo'];have hats:=hA.ats;have hown:=hA.own;rw [zBd] at hats hown;refine ⟨H.length,by simp,bs.length+2,bs.length+3,vs,.yes 93,by omega,by omega,hats.frame fun i a b=>qy (by omega),rfl,?_⟩
   rw [qy (by omega),hown]
   cases vs with
   | nil=>simp at hv0
   | cons a b=>rfl
end Go.Proofs.YtlnijcffanjieaaGreatDoor
namespace Go.Proofs.YtlnijcffanjieaaGreatDoor
set_option maxRecDepth 100000
open Go Go.Vm
variable {gl:Gl}
theorem zeT {asg:List V->List Blk->Option (Ex×St)} {bd:List V->List Blk->Option (Ex×St)} {ok:List Blk->Bool} (Inv:Nat->List Blk->List (Nat×Nat)->Prop) (Post:Ex->Hp->Prop) (xs:List (List V))
  (hstep:∀ k x bs es,xs[k]?=some x->Inv k bs es->∃ e bs1 es1 lk1,asg x bs=some (.normal,⟨e,⟨bs1,es1⟩,lk1,[]⟩)/\ok bs1=true/\∃ ex e2 bs2 es2 lk2,bd (e.map clr) bs1=some (ex,⟨e2,⟨bs2,es2⟩,lk2,[]⟩)/\ok bs2=true/\((ex=.normal/\Inv (k+1) bs2 (es2++(es1++es)))\/(ex=.ret/\Post .ret ⟨bs2,es2++(es1++es)⟩)))
  (hend:∀ bs es,Inv xs.length bs es->Post .normal ⟨bs,es⟩):∀ (m k:Nat) (bs:List Blk) (es:List (Nat×Nat)),m+k=xs.length->Inv k bs es->∃ ex H,yN asg bd ok (xs.drop k) ⟨bs,es⟩=some (ex,H)/\Post ex H
 | 0,k,bs,es,hm,hI=>by
  obtain rfl:k=xs.length:=by omega
  exact ⟨.normal,_,by rw [List.drop_length];rfl,hend _ _ hI⟩
 | m+1,k,bs,es,hm,hI=>by
  have hk:k<xs.length:=by omega
  obtain ⟨e,bs1,es1,lk1,h1,h2,ex,e2,bs2,es2,lk2,h3,h4,h5⟩:=hstep k xs[k] bs es (by simp [hk]) hI
  rw [zBI hk];rcases h5 with ⟨rfl,h5⟩|⟨rfl,h5⟩
  ·obtain ⟨ex,H,h6,h7⟩:=zeT Inv Post xs hstep hend m (k+1) bs2 _ (by omega) h5
   exact ⟨ex,H,by simp only [yN,h1,h2,h3,h4,fL_eq,zAo,zAD,if_false,h6],h7⟩
  ·exact ⟨.ret,_,by simp only [yN,h1,h2,h3,h4,fL_eq,zAo,zAD,if_false],h5⟩
theorem znB {cx:Cx} {n:Nat} {Q:Ex->St->Prop} {f:Operand} {ps:Array Tmp} {asn bd:Code} {k:List It} {env:List V} {bs:List Blk} {es:List (Nat×Nat)} {lk:List (Nat×Nat)} {df:List (V×List V)} {fv:V} {b sz:Nat} {ty:TypeId} {ys:List V} {back:Bool}
  (hp:peek env f=some fv) (hi:cx.itOf fv ⟨bs,es⟩=some (b,ty,some (sz,ys),back)) (hc:(calm asn && calm bd && Nat.beq ps.size (if back then 2 else 1))=true)
  (h:∃ ex H1,yN (fun x bs=>cx.code n asn ⟨zaz (env.map clr) ps.toList x,⟨bs,[]⟩,[],[]⟩) (fun e bs=>cx.code n bd ⟨e,⟨bs,[]⟩,[],[]⟩) (jT bs.length) (jQ back ys) ⟨lockBox b ty sz ys bs,es⟩=some (ex,H1)/\∃ H2,freeBox b H1=some H2/\go cx n Q k ex ⟨env.map clr,H2,[],(.nilp,[])::df⟩) :
  go cx n Q (.c (.rangeFunc f ps asn bd)::k) .normal ⟨env,⟨bs,es⟩,lk,df⟩:=by
 obtain ⟨ex,H1,h1,H2,h2,h3⟩:=h;simp only [go];refine ⟨ex,_,?_,h3⟩;simp only [Cx.code,hp,hi,hc,zAo,zAD,if_false,fL_eq,h1,h2]
theorem zlN {cx:Cx} {n:Nat} {Q:Ex->St->Prop} {f:Operand} {ps:Array Tmp} {asn bd:Code} {k:List It} {env:List V} {bs:List Blk} {es:List (Nat×Nat)} {lk:List (Nat×Nat)} {df:List (V×List V)} {fv:V} {b sz:Nat} {ty:TypeId} {ys:List V} {back:Bool}
  (Inv:Nat->List Blk->List (Nat×Nat)->Prop) (hp:peek env f=some fv) (hi:cx.itOf fv ⟨bs,es⟩=some (b,ty,some (sz,ys),back)) (hc:(calm asn && calm bd && Nat.beq ps.size (if back then 2 else 1))=true)
  (h0:Inv 0 (lockBox b ty sz ys bs) es)
  (hend:∀ bs' es',Inv (jQ back ys).length bs' es'->∃ H2,freeBox b ⟨bs',es'⟩=some H2/\go cx n Q k .normal ⟨env.map clr,H2,[],(.nilp,[])::df⟩)
  (hstep:∀ j x bs' es',(jQ back ys)[j]?=some x->Inv j bs' es'->go cx n (fun ex s=>ex=.normal/\s.defers=[]/\jT bs.length s.H.blks=true /\
   go cx n (fun ex2 s2=>s2.defers=[]/\jT bs.length s2.H.blks=true/\((ex2=.normal/\Inv (j+1) s2.H.blks (s2.H.edges++(s.H.edges++es')))\/(ex2=.ret/\∃ H2,freeBox b ⟨s2.H.blks,s2.H.edges++(s.H.edges++es')⟩=some H2/\go cx n Q k .ret ⟨env.map clr,H2,[],(.nilp,[])::df⟩)))
    [.c bd] .normal ⟨s.env.map clr,⟨s.H.blks,[]⟩,[],[]⟩) [.c asn] .normal ⟨zaz (env.map clr) ps.toList x,⟨bs',[]⟩,[],[]⟩) :
  go cx n Q (.c (.rangeFunc f ps asn bd)::k) .normal ⟨env,⟨bs,es⟩,lk,df⟩:=by
 refine znB hp hi hc ?_;refine zeT Inv (fun ex H1=>∃ H2,freeBox b H1=some H2/\go cx n Q k ex ⟨env.map clr,H2,[],(.nilp,[])::df⟩) (jQ back ys) (fun j x bs' es' hx hI=>?_) hend (jQ back ys).length 0 _ _ (by omega) h0
 obtain ⟨ex,⟨e,⟨bs1,es1⟩,lk1,df1⟩,h1,rfl,h2,h3,h4⟩:=y5 (hstep j x bs' es' hx hI);obtain ⟨ex2,⟨e2,⟨bs2,es2⟩,lk2,df2⟩,h5,h6,h7,h8⟩:=y5 h4;simp only at h2 h6;subst h2 h6;exact ⟨e,bs1,es1,lk1,h1,h3,ex2,e2,bs2,es2,lk2,h5,h7,h8⟩
theorem go_env {cx:Cx} {n:Nat} {Q:Ex->St->Prop} {k:List It} {env:List V} {H:Hp} {lk:List (Nat×Nat)} {df:List (V×List V)} (F:List V->Prop) (h1:F env) (h2:∀ env,F env->go cx n Q k .normal ⟨env,H,lk,df⟩):go cx n Q k .normal ⟨env,H,lk,df⟩:=h2 _ h1
theorem j6 {l:List V} {i:Nat} {v:V} (h:nth l i=some v):nth (l.map clr) i=some (clr v):=by rw [zw] at h ⊢;rw [zAp,h];rfl
theorem zju {cx:Cx} {takes:List Tmp} {dst:Option Tmp} {type:TypeId} {pos:String} {after:Array Edge} {guard:Option (Nat×Bool)} {env:List V} {H:Hp} {lk:List (Nat×Nat)} {df:List (V×List V)} {fn:Fn} {t:Operand}:cx.op takes ⟨dst,.makeFunc fn #[] #[t],type,pos,after,guard⟩ env H lk df=rdQ env H lk df ((peek env t).map fun v=>.fn fn [] [v]):=by
 simp only [Cx.op];refine vq ?_;simp only [qC,peeks,zN,Option.bind_eq_bind,zAC];cases peek env t<;>rfl
def bkV (b:Nat):V:=.fn (.func 98) [] [.ptr b 0]
theorem e67 (hg:GW gl) {n:Nat} {bs:List Blk} {es:List (Nat×Nat)} {nl:Bool} {l:List E} :
  callA Tryz.prog gl (n+1) 67 [jM nl (encs l)] ⟨bs,es⟩=some (.ret (bkV bs.length),⟨bs++[.cells [jM nl (encs l)] 25],es⟩):=by
 suffices hmain:go ⟨Tryz.prog,gl.g,callA Tryz.prog gl n,gl.uq⟩ n (Fx Tryz.prog Tryz.f67.results.toList fun v H1=>v=bkV bs.length/\H1=⟨bs++[.cells [jM nl (encs l)] 25],[]⟩) [.c (Tryz.f67.body.getD .skip)] .normal ⟨[jM nl (encs l)]++List.replicate 3 (.tup []),⟨bs,[]⟩,[],[]⟩ by
  obtain ⟨v,H1,h1,rfl,rfl⟩:=kM (gl:=gl) (f:=67) (bs:=bs) (es:=es) (args:=[jM nl (encs l)]) (n:=n) (hg.hk _ _ (by decide)) (fun H=>hg.hk2 _ _ _ _) Tryz.func67 rfl hmain
  rw [h1];have:(bkV bs.length).top=bs.length+1:=by simp [bkV,V.top,tops]
  rw [this];simp only [jr];rw [if_neg]
  ·rfl
  ·simp only [zAF,not_and];intro hb;have:=zAn hb;omega
 have hbx:okC (jM nl (encs l))=true/\(jM nl (encs l)).laid=[jM nl (encs l)]:=by
  rcases kX nl (encs l) with h|⟨_,h⟩<;>rw [h]<;>exact ⟨rfl,rfl⟩
 have htk:∀ env t,kb env t (some (jM nl (encs l)))=some (jM nl (encs l),env):=fun env t=>by
  rcases kX nl (encs l) with h|⟨_,h⟩<;>rw [h]<;>rfl
 simp only [Tryz.f67,zA2,ze];refine zc (tk:=[]) (by kernel_rfl) ?_
 simp only [zl,go_os_nil,ze,q5,zd,zh,zo,ofVal,zf,opQ_val,zr,zAB,qd,zAV,zAT,zi,zAG,zAH,List.replicate,htk,jf hbx.1,hbx.2]
 have htf:∀ env t b,kb env t (some (V.fn (.func 98) [] [.ptr b 0]))=some (.fn (.func 98) [] [.ptr b 0],env):=fun _ _ _=>rfl;refine zc (tk:=[]) (by kernel_rfl) ?_
 simp only [zl,go_os_nil,zd,peek,zh,zb,zf,opQ_val,zr,zu,zAB,zi,zp,zAG,zAH,zju,htf]
 simp only [go_ret,zB,Fx]
 exact ⟨trivial,[bkV bs.length],rfl,rfl,trivial⟩
end Go.Proofs.YtlnijcffanjieaaGreatDoor
namespace Go.Proofs.YtlnijcffanjieaaGreatDoor
set_option maxRecDepth 100000
open Go Go.Vm
variable {gl:Gl}
theorem zg3 {a b:List Blk} {m:Nat} (h:NewC a b) (hm:a.length<=m):jT m b=true:=by
 obtain ⟨l,rfl,h1⟩:=h;simp only [jT,zA8];intro x hx;have:x∈l:=by
  rw [List.drop_append,zBj hm,zAT] at hx;exact zBH hx
 exact h1 x this
theorem foCat_drop:∀ (l:List E) (j:Nat),foCat (l.drop j)=none->foCat l=none
 | l,0,h=>h
 | [],j+1,h=>by simp only [List.drop_nil] at h;exact h
 | a::l,j+1,h=>by
  have:=foCat_drop l j (by simpa using h)
  simp only [foCat,this]
def zpu (x w:Wd):Wd:=.both x w (emW x && emW w) false
def b133:Option V->Option V->Option V->Option V
 | some a,some b,some c=>if (okC a=true/\a.cells.length=1)/\(okC b=true/\b.cells.length=1)/\(okC c=true/\c.cells.length=1) then some (.agg (Vm.storeCells (Vm.storeCells (Vm.storeCells [.nili,.nili,.bool false,.bool false] 0 a.cells) 1 b.cells) 2 c.cells)) else none
 | _,_,_=>none
theorem znC {env:List V} {x y z:Operand}:kS Tryz.prog 133 #[(0,x),(1,y),(2,z)] env=b133 (peek env x) (peek env y) (peek env z):=by
 have e0:kS Tryz.prog 133 #[(0,x),(1,y),(2,z)] env=(vY [.nili,.nili,.bool false,.bool false] (nth [(0,1),(1,1),(2,1),(3,1)]) env [(0,x),(1,y),(2,z)]).map .agg:=by kernel_rfl
 rw [e0];simp only [vY,Option.bind_eq_bind,zi,zp];cases peek env x with
 | none=>rfl
 | some a =>
  simp only [zAC,zAF,Nat.beq_eq,zAU,stc_length]
  by_cases h1:okC a=true/\a.cells.length=1
  ·cases peek env y with
   | none=>simp [b133]
   | some b =>
    by_cases h2:okC b=true/\b.cells.length=1
    ·cases peek env z with
     | none=>simp [b133]
     | some c =>
      by_cases h3:okC c=true/\c.cells.length=1
      ·simp [b133,h1,h2,h3]
      ·simp [b133,h1,h2,h3]
    ·cases peek env z<;>simp [b133,h1,h2]
  ·cases peek env y<;>cases peek env z<;>simp [b133,h1]
theorem znD {t t':Nat} {u u':V} {b:Bool}:b133 (some (.ifc t u)) (some (.ifc t' u')) (some (.bool b))=some (.agg (zaa (.ifc t u) (.ifc t' u') b false)):=rfl
theorem zqg {gl:Nat->Nat->Option V} {c:FuncId->List V->Hp->Option (Out×Hp)} {bs:List Blk} {es:List (Nat×Nat)} {b:Nat} {l:List E} (hb:nth bs b=some (.cells [.sl 10 (encs l) .no] 25)) (hl:l.length<=140737488355328):Cx.itOf ⟨Tryz.prog,gl,c,uqw⟩ (bkV b) ⟨bs,es⟩=some (b,25,some (10,encs l),true):=by
 have hb':Hp.get ⟨bs,es⟩ b=some (.cells [.sl 10 (encs l) .no] 25):=hb;have hk:uqw (xJ 98 true 25)=true:=rfl;have hall:(encs l).all (fun x=>isAggV x == true)=true:=by
  rw [zA8];intro x hx;obtain ⟨i,hi⟩:=List.mem_iff_getElem?.1 hx;rw [encs_get] at hi;cases ha:l[i]? with
  | none=>rw [ha] at hi;cases hi
  | some a=>rw [ha] at hi;cases hi;rw [qJ];rfl
 have hle:Nat.ble (encs l).length 140737488355328=true:=zBt (by rw [encs_length];exact hl)
 have hbt:Nat.blt 25 1048576=true:=rfl;simp only [Cx.itOf,bkV,hb',u25,sz27,ag27,hk,zBs,zAo,zBK,hbt,hall,hle];rfl
structure CI (e:E) (bs:List Blk) (l:List E) (k:Nat) (H:List Blk) (es:List (Nat×Nat)) (w:Wd) (v:V):Prop where
 new:NewC (B1 e bs) H
 cell:nth H (bs.length+2)=some (.cells [v] 93)
 box:nth H (bs.length+3)=some (.cells [.sl 10 (encs l) .lock] 25)
 fo:foCat (l.drop (l.length - k))=some w
 hat:∃ hi,hi<=H.length/\At H w (bs.length+4) hi v
 ed:∀ p∈es,bs.length<=p.1
 len:bs.length+4<=H.length
theorem zqh (hg:GW gl) {n:Nat} {pl s0 s1 s2 s3 mn mx:Int} {tx:List Nat} {nl:Bool} {l:List E} {bs:List Blk} {es:List (Nat×Nat)} (hn:1<=n) (hl0:l≠[]) (hll:l.length<=2 ^ 40) (ih:∀ a∈l,∀ bs es,y8 gl n a bs es):y8 gl (n+1) (.mk 5 pl s0 s1 s2 s3 tx mn mx nl l) bs es:=by
 refine zeQ (zcB hg (op:=5) rfl fun env hel e1 e2 e13=>?_);generalize hE:E.mk 5 pl s0 s1 s2 s3 tx mn mx nl l=e;have hec:ecells e=[.int .i64 5,.int .i64 pl,.int .u64 s0,.int .u64 s1,.int .u64 s2,.int .u64 s3,.str tx,.int .i64 mn,.int .i64 mx,jM nl (encs l)]:=by rw [<- hE];rfl
 have hfo:foW e=foCat l:=by rw [<- hE];simp only [foW];rfl
 have hB:(B1 e bs).length=bs.length+2:=zbS e bs;have hl9:∀ bs',NewC (B1 e bs) bs'->∀ es g,zM Tryz.prog ⟨bs',es⟩ g 25 (.ptr bs.length 9)=some (jM nl (encs l)):=fun bs' hN es g=>qc (H:=⟨bs',es⟩) ag25 ((hN.nth (by omega)).trans (zlM e bs)) (by rw [hec];rfl)
 have hav:jM nl (encs l)=.sl 10 (encs l) .no:=by
  rcases kX nl (encs l) with h|⟨h,_⟩
  ·exact h
  ·cases l with
   | nil=>exact absurd rfl hl0
   | cons a l=>simp [encs] at h
 have hN0:NewC (B1 e bs) (B1 e bs++[Blk.cells [.ifc 127 (.agg [])] 93]):=(NewC.refl _).push;have h67:∀ bs es,Cx.callF ⟨Tryz.prog,gl.g,callA Tryz.prog gl n,uqw⟩ 67 [jM nl (encs l)] ⟨bs,es⟩=some (.val (bkV bs.length),⟨bs++[.cells [jM nl (encs l)] 25],es⟩):=fun bs es=>qb Tryz.func67 rfl (by obtain ⟨m,rfl⟩:∃ m,n=m+1:=⟨n - 1,by omega⟩;exact e67 hg)
 have hc2:∀ x:Blk,Hp.get ⟨B1 e bs++[x],[]⟩ (bs.length+2)=some x:=fun x=>by
  have:=Vm.get_at0 (bs:=B1 e bs) (ls:=[x]) (es:=[])
  rwa [hB] at this
 have hst0:∀ env:List V,jY Tryz.prog 93 ⟨B1 e bs++[Blk.cells [.nili] 93],[]⟩ [] [] (some (.ifc 127 (.agg []),env)) (some (.ptr (bs.length+2) 0))=some (.skip,⟨env,⟨B1 e bs++[Blk.cells [.ifc 127 (.agg [])] 93],[]⟩,[],[]⟩):=fun env=>by
  rw [zkE (H:=⟨B1 e bs++[Blk.cells [.nili] 93],[]⟩) (hc2 _) rfl rfl rfl,vK rfl];have:=Vm.set_at0 (bs:=B1 e bs) (ls:=[Blk.cells [.nili] 93]) (es:=[]) (x:=Blk.cells [.ifc 127 (.agg [])] 93);rw [hB] at this;rw [this];rfl
 simp only [K45X,K45Z,K45,Tryz.f45,zA2,c1,c2,ze];refine zc (tk:=[]) (by kernel_rfl) ?_
 simp only [zl,go_os_nil,ze,zv,zd,Nat.reduceEqDiff,peek,zh,ofVal,zt,zb,zf,opQ_val,zr,zq,zk,zAa,zD,zK,if_true,za,zAR,Nat.reduceLT,if_true,if_false,e13,hel,jH,Int.reduceBEq,zAD,zBB,zBl,zAa]
 refine zc (tk:=[]) (by kernel_rfl) ?_
 simp only [zl,go_os_nil,ze,zv,zd,Nat.reduceEqDiff,peek,zh,ofVal,zt,zb,zf,opQ_val,zr,zq,zk,zAa,zD,zK,if_true,za,zAR,Nat.reduceLT,if_true,if_false,e13,hel,jH,beq_self_eq_true,zA3,zBB,zAa,zBx]
 refine zc (tk:=[]) (by kernel_rfl) ?_
 simp only [zl,go_os_nil,ze,qa,zE,ql,Nat.reduceEqDiff,peek,zh,zb,opQ_val,opQ_skip,zr,jv,zu,zAB,qd,if_true,za,zAR,Nat.reduceLT,if_true,if_false,hel,hB,zjt,zas if127,zpq,qz,hst0]
 refine zc (tk:=[]) (by kernel_rfl) ?_
 simp only [zl,go_os_nil,zO,zn,zg,zV,Nat.reduceEqDiff,peeks,zN,peek,zb,opQ_val,zr,zu,zAC,zAB,zm,zP,zF,qo,zAW,zAi,zAc,zAS,List.length_nil,zAU,zAx,Nat.reduceAdd,zAb,zAV,zAT,if_true,za,zAR,Nat.reduceLT,if_true,if_false,e1,hel,hB,fo27_6,hl9 _ hN0,jN,h67]
 obtain ⟨cz,⟨hz1,hz2⟩,hz3⟩:=zpt (_env:=env) (_H:=⟨[],[]⟩) (_lk:=[]) (_df:=[]);obtain ⟨HR,hHR⟩:∃ HR,HR=B1 e bs++[Blk.cells [V.ifc 127 (V.agg [])] 93,Blk.cells [jM nl (encs l)] 25]:=⟨_,rfl⟩;have hRl:HR.length=bs.length+4:=by rw [hHR];simp [hB]
 have hR2:nth HR (bs.length+2)=some (.cells [.ifc 127 (.agg [])] 93):=by
  have:=za6 (bs:=B1 e bs) (x:=Blk.cells [V.ifc 127 (V.agg [])] 93) (y:=Blk.cells [jM nl (encs l)] 25) (es:=[]);rw [hB] at this;rw [hHR];exact this
 have hR3:nth HR (bs.length+3)=some (.cells [.sl 10 (encs l) .no] 25):=by
  have:=za5 (bs:=B1 e bs) (x:=Blk.cells [V.ifc 127 (V.agg [])] 93) (y:=Blk.cells [jM nl (encs l)] 25) (es:=[]);rw [hB] at this;rw [hHR,<- hav];exact this
 have hRn:NewC (B1 e bs) HR:=⟨_,hHR,by simp [Blk.isCells]⟩
 rw [<- hHR];have hil:(jQ true (encs l)).length=l.length:=by simp [jQ,encs_length]
 have hig:∀ j x,(jQ true (encs l))[j]?=some x->∃ a,j<l.length/\l[l.length - 1 - j]?=some a/\x=[.int .i64 ((l.length - 1 - j:Nat):Int),enc a]:=fun j x hx=>by
  simp only [jQ,if_true,zAp,zAe,encs_length] at hx;obtain ⟨k,hk,rfl⟩:=hx;have hj:j<l.length:=by have:=(zAI.1 hk).1;simpa using this
  rw [List.getElem?_range hj] at hk;cases hk;refine ⟨l[l.length - 1 - j],hj,by simp,?_⟩
  rw [zw,encs_get,zAX (by omega)]
  rfl
 try simp only [zO,ze]
 refine go_env (fun e=>e.length=125/\nth e 2=some (.ptr (bs.length+1) 0)/\nth e 3=some (.ptr (bs.length+2) 0)/\nth e 31=some (bkV (bs.length+3))) ⟨by simp [hel],by simp [za,e2],by simp [za,hel],by simp [za,hel]⟩ ?_
 clear e1 e2 e13 hel env;rintro env ⟨hel,e2,e3,e31⟩;refine zlN (fun k H E=>∃ w v,CI e bs l k H E w v) (fv:=bkV (bs.length+3)) (by simp only [peek,e31];rfl) (zqg hR3 (by omega)) (by kernel_rfl) ?_ ?_ ?_
 ·refine ⟨.non,.ifc 127 (.agg []),?_,?_,?_,?_,?_,by simp,by simp [lockBox,hRl]⟩
  ·exact hRn.set (by omega)
  ·unfold lockBox;rw [qy (by omega)];exact hR2
  ·unfold lockBox;rw [jk (by omega)]
  ·rw [Nat.sub_zero,List.drop_length];simp [foCat]
  ·exact ⟨bs.length+4,by simp [lockBox,hRl],zAQ _,rfl⟩
 ·rintro H E ⟨w,v,hC⟩;rw [hil] at hC;have hfoc:foCat l=some w:=by have:=hC.fo;rwa [Nat.sub_self,zBg] at this
  have hlenH:=hC.len;refine ⟨⟨H.set (bs.length+3) (.cells [.sl 10 (encs l) .no] 25),E⟩,by simp only [freeBox,hC.box],?_⟩
  obtain ⟨hi,hhi,hat⟩:=hC.hat;obtain ⟨t,u,rfl⟩:=hat.ifc;have hcell:nth (H.set (bs.length+3) (.cells [.sl 10 (encs l) .no] 25)) (bs.length+2)=some (.cells [.ifc t u] 93):=by rw [qy (by omega)];exact hC.cell
  have hc1:nth (H.set (bs.length+3) (.cells [.sl 10 (encs l) .no] 25)) (bs.length+1)=some (.cells [.nili] 93):=by rw [qy (by omega)];exact (hC.new.nth (by omega)).trans (zix e bs)
  have hld:zM Tryz.prog ⟨H.set (bs.length+3) (.cells [.sl 10 (encs l) .no] 25),E⟩ gl.g 93 (.ptr (bs.length+2) 0)=some (.ifc t u):=qc (H:=⟨_,E⟩) ag93 hcell rfl;have hst:∀ (env:List V) (df:List (V×List V)),jY Tryz.prog 93 ⟨H.set (bs.length+3) (.cells [.sl 10 (encs l) .no] 25),E⟩ [] df (some (.ifc t u,env)) (some (.ptr (bs.length+1) 0))=_:=fun env df=>zat hc1 rfl rfl rfl;simp only [qW,ze]
  have q2:=j6 e2;have q3:=j6 e3;rw [zu] at q2 q3;refine go_env (fun e=>e.length=125/\nth e 2=some (.ptr (bs.length+1) 0)/\nth e 3=some (.ptr (bs.length+2) 0)) ⟨by simp [hel],q2,q3⟩ ?_
  clear hel e2 e3 e31 q2 q3 env;rintro env ⟨hel,e2,e3⟩;refine zc (tk:=[]) (by kernel_rfl) ?_
  simp only [zl,go_os_nil,zn,zE,Nat.reduceEqDiff,peek,zh,zb,opQ_val,opQ_skip,zr,zu,zAC,zAB,if_true,za,Nat.reduceLT,if_true,if_false,e2,e3,hel,hld,qw,qz,hst]
  simp only [go_ret,zB,qH,j8,zaD]
  refine ⟨rfl,[.ifc t u],zeR (v:=.ifc t u) (b:=bs.length+1) (by simp [za,e2]) (jk (by simp;omega)),?_,xw (b:=bs.length+1) (v:=.ifc t u) hC.ed (by omega),?_⟩
  ·exact (((xH e bs).trans hC.new).set (by omega)).set (by omega)
  ·rw [hfo,hfoc];refine ⟨hi,by simp;omega,(hat.frame fun i p q=>?_).widen (by omega) (zAQ _)⟩
   rw [qy (by omega),qy (by omega)]
 ·rintro j x H E hx ⟨w,v,hC⟩;obtain ⟨a,hj,ha,rfl⟩:=hig j x hx;have ham:a∈l:=zAg ha;have hlenH:=hC.len;have q2:=j6 e2;have q3:=j6 e3;rw [zu] at q2 q3;refine go_env (fun e=>e.length=125/\nth e 2=some (.ptr (bs.length+1) 0)/\nth e 3=some (.ptr (bs.length+2) 0)/\nth e 33=some (enc a)) ⟨by simp [zaz,hel],by simp [zaz,za,q2],by simp [zaz,za,q3],by simp [zaz,za,hel,vz]⟩ ?_
  clear q2 q3;rintro env' ⟨fel,f2,f3,f33⟩;refine zc (tk:=[]) (by kernel_rfl) ?_
  simp only [zl,go_os_nil,ze,zO,qa,zE,Nat.reduceEqDiff,peek,zh,opQ_val,opQ_skip,zr,zu,qd,if_true,za,Nat.reduceLT,if_true,if_false,f33,fel,hz3,ziy,zps hz1 hz2]
  have hN1:NewC (B1 e bs) (H++[Blk.cells (ecells a) 27]):=hC.new.push;rw [zB]
  dsimp only
  refine ⟨rfl,rfl,zg3 hN1 (by omega),?_⟩
  have p2:=j6 f2;have p3:=j6 f3;rw [zu] at p2 p3;refine go_env (fun e=>e.length=125/\nth e 2=some (.ptr (bs.length+1) 0)/\nth e 3=some (.ptr (bs.length+2) 0)/\nth e 5=some (.ptr H.length 0)) ⟨by simp [fel],?_,?_,?_⟩ ?_
  ·exact j6 (v:=.ptr (bs.length+1) 0) (by simp [za,f2])
  ·exact j6 (v:=.ptr (bs.length+2) 0) (by simp [za,f3])
  ·exact j6 (v:=.ptr H.length 0) (by simp [za,fel])
  clear p2 p3 f2 f3 f33 fel env';rintro env' ⟨fel,f2,f3,f5⟩;obtain ⟨v',bs',es',hc0,hN,hes,hres⟩:=ih a ham (H++[Blk.cells (ecells a) 27]) [];have hcall:Cx.callF ⟨Tryz.prog,gl.g,callA Tryz.prog gl n,uqw⟩ 45 [enc a] ⟨H++[Blk.cells (ecells a) 27],[]⟩=some (.val v',⟨bs',es'++[]⟩):=qb Tryz.func45 rfl hc0;rw [zBG] at hcall;have hNH:NewC H bs':=(NewC.push (NewC.refl H)).trans hN;have hHb:=hN.len
  have hHb1:H.length+1<=bs'.length:=by simpa using hHb
  have hes':∀ p∈es',bs.length<=p.1:=fun p hp=>by have:=hes p hp;simp at this;omega
  have hNb:NewC (B1 e bs) bs':=hC.new.trans hNH;have hcell1:nth bs' (bs.length+1)=some (.cells [.nili] 93):=(hNb.nth (by omega)).trans (zix e bs)
  have hcell2:nth bs' (bs.length+2)=some (.cells [v] 93):=(hNH.nth (by omega)).trans hC.cell
  have hboxb:nth bs' (bs.length+3)=some (.cells [.sl 10 (encs l) .lock] 25):=(hNH.nth (by omega)).trans hC.box
  have hdrop:l.drop (l.length - (j+1))=a::l.drop (l.length - j):=by
   have hx:l.length - (j+1)<l.length:=by omega
   rw [zBI hx];have e0:l.length - (j+1)=l.length - 1 - j:=by omega
   have e1:l.length - (j+1)+1=l.length - j:=by omega
   rw [e1];have:l[l.length - (j+1)]=a:=by
    have h5:l[l.length - (j+1)]?=some a:=by rw [e0];exact ha
    rw [zAX hx] at h5;exact zBD h5
   rw [this]
  try simp only [ze,zO]
  refine zc (tk:=[]) (by kernel_rfl) ?_
  simp only [zl,go_os_nil,ze,zn,zd,zV,Nat.reduceEqDiff,peeks,zN,peek,zh,zb,opQ_val,zr,zu,zAC,zAB,zF,qo,zAW,zAi,zAT,if_true,za,zAR,Nat.reduceLT,if_true,if_false,f5,fel,zrg,vz,hcall]
  cases hw:foW a with
  | none =>
   rw [hw] at hres;simp only [Res] at hres;subst hres;have hfn:foCat l=none:=foCat_drop l (l.length - (j+1)) (by rw [hdrop];simp only [foCat,hC.fo,hw])
   have tki:∀ env t,kb env t (some V.nili)=some (.nili,env):=fun _ _=>rfl;simp only [tki,zf,opQ_val,zr];have hst:∀ env:List V,jY Tryz.prog 93 ⟨bs',es'⟩ [] [] (some (.nili,env)) (some (.ptr (bs.length+1) 0))=some (.skip,⟨env,⟨bs',edg (bs.length+1) .nili es'⟩,[],[]⟩):=fun env=>by rw [zat hcell1 rfl rfl rfl,zbp hcell1]
   refine zc (tk:=[]) (by kernel_rfl) ?_
   simp only [zl,go_os_nil,ze,go_skip,zj,zv,Nat.reduceEqDiff,peek,ofVal,zb,opQ_val,zr,zk,zAa,zD,zK,if_true,za,zAR,Nat.reduceLT,if_true,if_false,fel,clr_nili,zg2,zA3,zAa,zBB,zBx]
   refine zc (tk:=[]) (by kernel_rfl) ?_
   simp only [zl,go_os_nil,zE,Nat.reduceEqDiff,peek,zo,ofVal,opQ_skip,zr,zu,zAB,if_true,za,zAR,Nat.reduceLT,if_true,if_false,f2,fel,hst]
   simp only [go_ret,zB,qH,j8]
   have hE3:∀ p∈edg (bs.length+1) .nili es'++E,bs.length<=p.1:=fun p hp=>by
    rcases zAr.1 hp with hp|hp
    ·exact xw (b:=bs.length+1) (v:=.nili) hes' (by omega) p hp
    ·exact hC.ed p (by simpa using hp)
   refine ⟨trivial,zg3 hNb (by omega),.inr ⟨trivial,⟨bs'.set (bs.length+3) (.cells [.sl 10 (encs l) .no] 25),edg (bs.length+1) .nili es'++E⟩,by simp only [freeBox,hboxb],?_⟩⟩
   exact zg0 (j6 (v:=.ptr (bs.length+1) 0) e2) rfl ((qy (by omega)).trans hcell1) (((xH e bs).trans hNb).set (by omega)) hE3 (by rw [hfo,hfn])
  | some x =>
   rw [hw] at hres;obtain ⟨t,u,rfl⟩:=hres.ifc;obtain ⟨hi',hhi',hat'⟩:=hres;simp only [qz,zf,opQ_val,zr];refine zc (tk:=[]) (by kernel_rfl) ?_
   simp only [zl,go_os_nil,ze,go_skip,zj,zv,Nat.reduceEqDiff,peek,ofVal,zb,opQ_val,zr,zk,zAa,zD,zK,if_true,za,zAR,Nat.reduceLT,if_true,if_false,fel,qw,zg1,zAD,zAa,zBB,zBl]
   obtain ⟨hi,hhi,hat⟩:=hC.hat;obtain ⟨t',u',rfl⟩:=hat.ifc;have hatb:At bs' w (bs.length+4) hi (.ifc t' u'):=hat.frame fun i p q=>hNH.nth (by omega)
   have hat'':At bs' x (H.length+1) hi' (.ifc t u):=by simpa using hat'
   have hl3:zM Tryz.prog ⟨bs',es'⟩ gl.g 93 (.ptr (bs.length+2) 0)=some (.ifc t' u'):=qc (H:=⟨bs',es'⟩) ag93 hcell2 rfl;have hem:=fun env=>kE (lk:=[]) (df:=[]) (env:=env) (zdx hg hat'' (n:=n) hn es');have hem2:=fun env=>kE (lk:=[]) (df:=[]) (env:=env) (zdx hg hatb (n:=n) hn es');rw [hg.uq] at hem hem2;obtain ⟨B,hBdef⟩:∃ B,B=zaa (.ifc t u) (.ifc t' u') (emW x && emW w) false:=⟨_,rfl⟩
   have hce:nth (bs'++[Blk.cells B 133]) (bs.length+2)=some (.cells [.ifc t' u'] 93):=(wz (es:=[]) (by omega)).trans hcell2
   have hst:∀ env:List V,jY Tryz.prog 93 ⟨bs'++[Blk.cells B 133],es'⟩ [] [] (some (.ifc 131 (.ptr bs'.length 0),env)) (some (.ptr (bs.length+2) 0))=_:=fun env=>zat hce rfl rfl rfl;have hla:(V.agg B).laid=B:=by rw [hBdef];rfl
   have hob:okC (V.agg B)=true:=rfl;have fin:∀ env:List V,(True/\jT HR.length ((bs'++[Blk.cells B 133]).set (bs.length+2) (.cells [.ifc 131 (.ptr bs'.length 0)] 93))=true/\(True/\∃ w v,CI e bs l (j+1) ((bs'++[Blk.cells B 133]).set (bs.length+2) (.cells [.ifc 131 (.ptr bs'.length 0)] 93)) (edg (bs.length+2) (.ifc 131 (.ptr bs'.length 0)) es'++E) w v)):=fun env=>by
    have hn2:NewC (B1 e bs) ((bs'++[Blk.cells B 133]).set (bs.length+2) (.cells [.ifc 131 (.ptr bs'.length 0)] 93)):=(hNb.push).set (by omega)
    refine ⟨trivial,zg3 hn2 (by omega),trivial,zpu x w,.ifc 131 (.ptr bs'.length 0),hn2,jk (by simp;omega),?_,?_,?_,?_,by simp;omega⟩
    ·rw [qy (by omega)];exact (wz (es:=[]) (by omega)).trans hboxb
    ·rw [hdrop];simp only [foCat,hC.fo,hw,zpu]
    ·refine ⟨bs'.length+1,by simp,bs'.length,hi,hi',.ifc t u,.ifc t' u',?_,?_,by omega,by omega,rfl,?_⟩
     ·exact hatb.frame fun i p q=>(qy (by omega)).trans (wz (es:=[]) (by omega))
     ·exact (hat''.frame fun i p q=>(qy (by omega)).trans (wz (es:=[]) (by omega))).widen (by omega) (zAQ _)
     ·rw [qy (by omega)]
      have:=Vm.get_at0 (bs:=bs') (ls:=[Blk.cells B 133]) (es:=[]);rw [hBdef] at this ⊢;exact this
    ·intro p hp;rcases zAr.1 hp with hp|hp
     ·exact xw (b:=bs.length+2) (v:=.ifc 131 (.ptr bs'.length 0)) hes' (by omega) p hp
     ·exact hC.ed p (by simpa using hp)
   cases hx:emW x with
   | true =>
    rw [hx] at hem hBdef;simp only [zBT] at hBdef;rw [hBdef] at hst hla hob fin
    refine xZ [1] [] [(false,false,false,false),(true,false,false,false),(false,false,false,false),(false,true,false,false),(false,false,false,false),(false,false,false,false),(false,true,false,false),(false,false,false,false),(false,false,false,false),(false,true,false,true),(false,false,false,false),(false,true,false,true)] (tk:=[]) (by kernel_rfl) (by kernel_rfl) ?_
    simp only [qW,zj,zn,q5,zE,zS,ql,Nat.reduceEqDiff,peeks,peek,zh,ofVal,zW,zb,zr,zk,zu,zAC,zAB,zAa,qd,jg,if_true,z6,za,zAR,Nat.reduceLT,if_true,if_false,ol_cons,zoJ,zQ,zi,zp,qm,wantB_tt,wx,ol_nil,olV_val,olV_valh,olV_valc,olV_skipc,wj,vX,kD,kQ,ag93,f3,fel,hl3,qw,qk,hem,hem2,z6,znC,znD,jf hob,hla,zas if131,qz,zW,hst]
    have hpe:peek ((((((env'.set 34 (enc a)).set 35 (V.ifc t u)).set 6 (V.ifc t u)).set 36 (V.ifc t u)).set 37 (V.bool false)).set 38 (V.ifc t u)) (.tmp 3)=some (.ptr (bs.length+2) 0):=by simp [peek,za,f3,clr]
    refine ⟨⟨jZ hpe hl3 rfl,trivial⟩,⟨jZ hpe hl3 rfl,trivial⟩,?_⟩;rw [zB]
    dsimp only
    exact ⟨rfl,(fin []).2.1,.inl ⟨rfl,(fin []).2.2.2⟩⟩
   | false =>
    rw [hx] at hem hBdef;simp only [zBu] at hBdef;rw [hBdef] at hst hla hob fin
    refine xZ [1] [] [(false,false,false,false),(true,false,false,false),(false,false,false,false),(false,true,false,false),(false,false,false,false),(false,false,false,false),(false,true,false,false),(false,false,false,false),(false,false,false,false),(false,true,false,true),(false,false,false,false),(false,true,false,true)] (tk:=[]) (by kernel_rfl) (by kernel_rfl) ?_
    simp only [qW,zj,zn,q5,zE,zS,ql,Nat.reduceEqDiff,peeks,peek,zh,ofVal,zW,zb,zr,zk,zu,zAC,zAB,zAa,qd,jg,if_true,z7,za,zAR,Nat.reduceLT,if_true,if_false,ol_cons,zoJ,zQ,zi,zp,qm,wantB_tf,wG,ol_nil,olV_val,olV_valh,olV_valc,olV_skipc,wj,vX,kD,kQ,ag93,f3,fel,hl3,qw,qk,hem,hem2,z7,znC,znD,jf hob,hla,zas if131,qz,zW,hst]
    have hpe:peek ((((((env'.set 34 (enc a)).set 35 (V.ifc t u)).set 6 (V.ifc t u)).set 36 (V.ifc t u)).set 37 (V.bool false)).set 38 (V.ifc t u)) (.tmp 3)=some (.ptr (bs.length+2) 0):=by simp [peek,za,f3,clr]
    refine ⟨⟨jZ hpe hl3 rfl,trivial⟩,?_⟩;rw [zB]
    dsimp only
    exact ⟨rfl,(fin []).2.1,.inl ⟨rfl,(fin []).2.2.2⟩⟩
end Go.Proofs.YtlnijcffanjieaaGreatDoor
namespace Go.Proofs.YtlnijcffanjieaaGreatDoor
set_option maxRecDepth 100000
open Go Go.Vm Go.Vm.Sx
variable {gl:Gl}
mutual
def Cor:E->Prop
 | .mk op pl s0 s1 s2 s3 text mn mx nl args=>leanB (.mk op pl s0 s1 s2 s3 text mn mx nl args)=true/\kindB (.mk op pl s0 s1 s2 s3 text mn mx nl args)=true/\args.length<=65536/\Cors args
def Cors:List E->Prop
 | []=>True
 | a::l=>Cor a/\Cors l
end
mutual
def Rg:E->Prop
 | .mk _ _ s0 s1 s2 s3 _ _ _ _ args=>RgS (s0,s1,s2,s3)/\Rgs args
def Rgs:List E->Prop
 | []=>True
 | a::l=>Rg a/\Rgs l
end
def vC (e:E):Bool:=(partsM e 1 0 0).1
mutual
theorem pM:∀ (e:E) (d n s:Int),0<=n->n<=65536->(partsM e d n s).1=true->Cor e/\n+1<=(partsM e d n s).2.1/\(partsM e d n s).2.1<=65536
 | .mk op pl s0 s1 s2 s3 text mn mx nl args,d,n,s,h0,h1,h=>by
  have hw:IntKind.i64.wrap (n+1)=n+1:=by rw [w64 (by omega) (by omega)]
  simp only [partsM,hw] at h ⊢;cases hc:(ltz 65536 (n+1) || ltz 4096 d) with
  | true=>simp [hc] at h
  | false =>
   have hn:n+1<=65536:=by
    simp only [zBV] at hc;have:=hc.1;simp only [ltz,decide_eq_false_iff_not] at this;omega
   simp only [hc,zAD,if_false] at h ⊢;cases hl:leanB (.mk op pl s0 s1 s2 s3 text mn mx nl args) with
   | false=>simp [hl] at h
   | true =>
    cases hk:kindB (.mk op pl s0 s1 s2 s3 text mn mx nl args) with
    | false=>simp [hl,hk] at h
    | true =>
     simp only [hl,hk,if_true] at h ⊢;obtain ⟨g1,g2,g3⟩:=pF args _ (n+1) _ (by omega) hn h
     exact ⟨⟨hl,hk,by omega,g1⟩,by omega,g3⟩
theorem pF:∀ (l:List E) (d n s:Int),0<=n->n<=65536->(partsF d l n s).1=true->Cors l/\n+(l.length:Int)<=(partsF d l n s).2.1/\(partsF d l n s).2.1<=65536
 | [],d,n,s,h0,h1,h=>by simp only [partsF];exact ⟨trivial,by simp,h1⟩
 | a::l,d,n,s,h0,h1,h=>by
  simp only [partsF] at h ⊢;cases ha:(partsM a d n s).1 with
  | false=>rw [ha] at h;simp [ha] at h
  | true =>
   simp only [ha,if_true] at h ⊢;obtain ⟨g1,g2,g3⟩:=pM a d n s h0 h1 ha;obtain ⟨k1,k2,k3⟩:=pF l d _ _ (by omega) g3 h
   exact ⟨⟨g1,k1⟩,by simp only [zAS];omega,k3⟩
end
theorem zdT {e:E} (h:vC e=true):Cor e:=(pM e 1 0 0 (by decide) (by decide) h).1
theorem Cors.mem {a:E}:∀ {l:List E},Cors l->a∈l->Cor a
 | b::l,h,hm=>by
  rcases zAM.1 hm with rfl|hm
  ·exact h.1
  ·exact h.2.mem hm
theorem Rgs.mem {a:E}:∀ {l:List E},Rgs l->a∈l->Rg a
 | b::l,h,hm=>by
  rcases zAM.1 hm with rfl|hm
  ·exact h.1
  ·exact h.2.mem hm
theorem zkI (hg:GW gl):∀ (N:Nat) (e:E),YtlnijcffanjieaaGreatDoor.hg e<=N->Cor e->∀ n,N<=n->∀ bs es,y8 gl (n+1) e bs es
 | 0,e,h,hc,n,hn,bs,es=>by cases e;simp only [YtlnijcffanjieaaGreatDoor.hg] at h;omega
 | N+1,.mk op pl s0 s1 s2 s3 text mn mx nl args,h,hc,n,hn,bs,es=>by
  simp only [YtlnijcffanjieaaGreatDoor.hg] at h;obtain ⟨_,hk,hlen,hcs⟩:=hc;have ih:∀ a∈args,∀ bs es,y8 gl n a bs es:=fun a ha bs es=>by
   obtain ⟨m,rfl⟩:∃ m,n=m+1:=⟨n - 1,by omega⟩
   have:=zeL ha;exact zkI hg N a (by omega) (hcs.mem ha) m (by omega) bs es
  by_cases h2:op=2
  ·subst h2;exact zqc hg
  by_cases h5:op=5
  ·subst h5;refine zqh hg (by omega) (fun e=>?_) (by omega) ih
   subst e;simp [kindB,ltz] at hk
  by_cases h6:op=6
  ·subst h6;exact zqf hg (by omega) (by omega) ih
  by_cases h7:op=7
  ·subst h7;cases args with
   | nil=>simp [kindB] at hk
   | cons a l=>exact zqd hg (by omega) (ih a (by simp))
  ·refine zoR hg (op:=op) rfl h2 h5 h6 h7 ?_;simp only [foW,h2,h5,h6,h7,if_false]
theorem foCat_FW:∀ (l:List E) (w:Wd) (m:Nat),(∀ a∈l,∀ x,foW a=some x->FW x<=m)->foCat l=some w->FW w<=m+2 * l.length+1
 | [],w,m,_,h=>by simp only [foCat,zAA] at h;subst h;simp only [FW];omega
 | a::l,w,m,hm,h=>by
  simp only [foCat] at h;split at h<;>try (cases h;done)
  rename_i w' x h1 h2;cases h;have g1:=foCat_FW l w' m (fun b hb=>hm b (zAE _ hb)) h1;have g2:=hm a (zAN ..) x h2;simp only [FW,zAS];omega
theorem foAlt_FW:∀ (l:List E) (m:Nat),(∀ a∈l,∀ x,foW a=some x->FW x<=m)->FWs (foAlt l)<=m/\(foAlt l).length<=l.length
 | [],m,_=>by simp [foAlt,FWs]
 | a::l,m,hm=>by
  obtain ⟨g1,g2⟩:=foAlt_FW l m fun b hb=>hm b (zAE _ hb);simp only [foAlt];cases ha:foW a with
  | none=>simp only [zAS];omega
  | some x =>
   have:=hm a (zAN ..) x ha;simp only [FWs,zAS];omega
theorem foW_FW:∀ (N:Nat) (e:E) (w:Wd),YtlnijcffanjieaaGreatDoor.hg e<=N->foW e=some w->FW w<=2 * YtlnijcffanjieaaGreatDoor.hg e
 | 0,e,w,h,_=>by cases e;simp only [YtlnijcffanjieaaGreatDoor.hg] at h;omega
 | N+1,.mk op pl s0 s1 s2 s3 text mn mx nl args,w,h,hw=>by
  simp only [YtlnijcffanjieaaGreatDoor.hg] at h ⊢;have hm:∀ a∈args,∀ x,foW a=some x->FW x<=2 * (hgs args):=fun a ha x hx=>by
   have h1:=zeL ha;have:=foW_FW N a x (by omega) hx
   omega
  simp only [foW] at hw;split at hw
  ·split at hw
   ·cases hw
   ·cases hw;simp only [FW];omega
  ·split at hw
   ·have:=foCat_FW args w _ hm hw;omega
   ·split at hw
    ·split at hw
     ·cases hw
     ·cases hw;obtain ⟨g1,g2⟩:=foAlt_FW args _ hm;simp only [FW];omega
    ·split at hw
     ·cases args with
      | nil =>
       simp only [foHead] at hw;split at hw
       ·cases hw
       ·cases hw;simp only [FW];omega
      | cons a l =>
       simp only [foHead] at hw;split at hw
       ·rename_i x hx;cases hw;have:=hm a (by simp) x hx
        simp only [FW];omega
       ·split at hw
        ·cases hw
        ·cases hw;simp only [FW];omega
     ·cases hw;simp only [FW];omega
theorem foCat_rg:∀ (l:List E) (w:Wd),(∀ a∈l,∀ x,foW a=some x->RgW x)->foCat l=some w->RgW w
 | [],w,_,h=>by simp only [foCat,zAA] at h;subst h;trivial
 | a::l,w,hm,h=>by
  simp only [foCat] at h;split at h<;>try (cases h;done)
  rename_i w' x h1 h2;cases h;exact ⟨hm a (zAN ..) x h2,foCat_rg l w' (fun b hb=>hm b (zAE _ hb)) h1⟩
theorem foAlt_rg:∀ (l:List E),(∀ a∈l,∀ x,foW a=some x->RgW x)->RgWs (foAlt l)
 | [],_=>by simp [foAlt,RgWs]
 | a::l,hm=>by
  have g:=foAlt_rg l fun b hb=>hm b (zAE _ hb);simp only [foAlt];cases ha:foW a with
  | none=>exact g
  | some x=>exact ⟨hm a (zAN ..) x ha,g⟩
theorem foW_rg:∀ (N:Nat) (e:E) (w:Wd),YtlnijcffanjieaaGreatDoor.hg e<=N->Cor e->Rg e->foW e=some w->RgW w
 | 0,e,w,h,_,_,_=>by cases e;simp only [YtlnijcffanjieaaGreatDoor.hg] at h;omega
 | N+1,.mk op pl s0 s1 s2 s3 text mn mx nl args,w,h,hc,hr,hw=>by
  simp only [YtlnijcffanjieaaGreatDoor.hg] at h;have hm:∀ a∈args,∀ x,foW a=some x->RgW x:=fun a ha x hx=>by
   have h1:=zeL ha;exact foW_rg N a x (by omega) (hc.2.2.2.mem ha) (hr.2.mem ha) hx
  simp only [foW] at hw;split at hw
  ·split at hw
   ·cases hw
   ·cases hw;exact hr.1
  ·split at hw
   ·exact foCat_rg args w hm hw
   ·split at hw
    ·split at hw
     ·cases hw
     ·cases hw;refine ⟨foAlt_rg args hm,?_⟩;have:=(foAlt_FW args (FWs (foAlt args)+2 * hgs args+9) (fun a ha x hx=>by have h1:=zeL ha;have:=foW_FW (YtlnijcffanjieaaGreatDoor.hg a) a x (zAQ _) hx;omega)).2
      have:=hc.2.2.1;omega
    ·split at hw
     ·cases args with
      | nil =>
       simp only [foHead] at hw;split at hw
       ·cases hw
       ·cases hw;trivial
      | cons a l =>
       simp only [foHead] at hw;split at hw
       ·rename_i x hx;cases hw;exact hm a (by simp) x hx
       ·split at hw
        ·cases hw
        ·cases hw;trivial
     ·cases hw;trivial
end Go.Proofs.YtlnijcffanjieaaGreatDoor
namespace Go.Proofs.YtlnijcffanjieaaGreatDoor
set_option maxRecDepth 100000
open Go Go.Vm
variable {gl:Gl}
def qP (nl:Bool) (t:List Nat):V:=Sx.lv 1 nl (t.map fun b=>V.int .u8 (b:Nat))
theorem ag5:km Tryz.prog 5=some false:=by kernel_rfl
theorem sz5:qx Tryz.prog 5=some 1:=by kernel_rfl
theorem r36:RowT Tryz.prog 36 3 1 8:=⟨by kernel_rfl,by kernel_rfl,by kernel_rfl,by decide,by kernel_rfl,by kernel_rfl,by kernel_rfl⟩
theorem qI {nl:Bool} {t:List Nat}:clr (qP nl t)=qP nl t:=Sx.clr_lv ..
theorem za7 {H:Hp} {nl:Bool} {t:List Nat}:wa Tryz.prog H 34 (qP nl t)=some (t.length:Int):=by
 rcases Sx.lv_cases 1 nl (t.map fun b=>V.int .u8 (b:Nat)) with h|⟨h0,h⟩<;>rw [qP,h]
 ·simp [wa]
 ·have:t=[]:=by simpa using h0
  subst this;simp [wa]
theorem zpv {nl:Bool} {t:List Nat} {k b:Nat} (h:t[k]?=some b):qh Tryz.prog 34 (qP nl t) (k:Int)=some (.vp [.int .u8 (b:Nat)]):=by
 have hk:¬ ((k:Int)<0):=by omega
 have hn:nth (t.map fun b=>V.int .u8 (b:Nat)) k=some (.int .u8 (b:Nat)):=by rw [zw,zAp,h];rfl
 rcases Sx.lv_cases 1 nl (t.map fun b=>V.int .u8 (b:Nat)) with h'|⟨h0,_⟩
 ·rw [qP,h'];simp [qh,sz5,hk,hn,V.cells]
 ·rw [h0] at hn;simp [nth] at hn
theorem zpw {H:Hp} {g:Nat->Nat->Option V} {v:V}:zM Tryz.prog H g 5 (.vp [v])=some v:=by simp [zM,wJ,ag5,nth,zce]
def goEnds:Wd->Nat->List Nat->List Nat
 | _,_,[]=>[]
 | w,i,b::t=>(if (stW w (i == 0) b).2 then [i+1] else [])++goEnds (stW w (i == 0) b).1 (i+1) t
def runE:Wd->Nat->List Nat->Wd
 | w,_,[]=>w
 | w,i,b::t=>runE (stW w (i == 0) b).1 (i+1) t
def yB (w:Wd) (t:List Nat):List Nat:=(if emW w then [0] else [])++goEnds w 0 t
theorem FW_st:∀ (N:Nat) (w:Wd) (bg:Bool) (c:Nat),FW w<=N->FW (stW w bg c).1=FW w
 | 0,w,bg,c,h=>by have:=zbR w;omega
 | N+1,.non,_,_,_=>by simp only [stW]
 | N+1,.one _ _,_,_,_=>by simp only [stW,FW]
 | N+1,.both a b _ _,bg,c,h=>by simp only [FW] at h;simp only [stW,FW,FW_st N a _ c (by omega),FW_st N b _ c (by omega)]
 | N+1,.alt l _ _,bg,c,h=>by
  simp only [FW] at h;simp only [stW,FW,stWs_1,zAj];have:∀ l:List Wd,FWs l<=N->FWs (l.map fun w=>(stW w bg c).1)=FWs l:=by
   intro l
   induction l with
   | nil=>intro _;rfl
   | cons x l ih =>
    intro hl;simp only [FWs] at hl;simp only [zAW,FWs,FW_st N x bg c (by omega),ih (by omega)]
  rw [this l (by omega)]
 | N+1,.rep w _ _,bg,c,h=>by simp only [FW] at h;simp only [stW,FW,FW_st N w _ c (by omega)]
theorem Rg_st:∀ (N:Nat) (w:Wd) (bg:Bool) (c:Nat),FW w<=N->RgW w->RgW (stW w bg c).1
 | 0,w,bg,c,h,_=>by have:=zbR w;omega
 | N+1,.non,_,_,_,h=>by simp only [stW];exact h
 | N+1,.one _ _,_,_,_,h=>by simp only [stW];exact h
 | N+1,.both a b _ _,bg,c,h,hr=>by simp only [FW] at h;simp only [stW];exact ⟨Rg_st N a _ c (by omega) hr.1,Rg_st N b _ c (by omega) hr.2⟩
 | N+1,.alt l _ _,bg,c,h,hr=>by
  simp only [FW] at h;simp only [stW,stWs_1];have:∀ l:List Wd,FWs l<=N->RgWs l->RgWs (l.map fun w=>(stW w bg c).1):=by
   intro l
   induction l with
   | nil=>intro _ _;trivial
   | cons x l ih =>
    intro hl hq;simp only [FWs] at hl;exact ⟨Rg_st N x bg c (by omega) hq.1,ih (by omega) hq.2⟩
  exact ⟨this l (by omega) hr.1,by rw [zAj];exact hr.2⟩
 | N+1,.rep w _ _,bg,c,h,hr=>by simp only [FW] at h;simp only [stW];exact Rg_st N w _ c (by omega) hr
def jW (l:List Nat):List V:=l.map fun n=>V.int .i64 (n:Nat)
theorem zkJ (hg:GW gl) {n:Nat} {bs:List Blk} {es:List (Nat×Nat)} {nl:Bool} {t:List Nat}:callA Tryz.prog gl (n+1) 44 [.nili,qP nl t] ⟨bs,es⟩=some (.ret .snil,⟨bs,es⟩):=by
 refine qT (hg.hk _ _ (by decide)) (fun H=>hg.hk2 _ _ _ _) Tryz.func44 rfl ?_
 simp only [Tryz.f44,ze];refine zc (tk:=[]) (by kernel_rfl) ?_
 simp only [zl,go_os_nil,ze,zd,zo,ofVal,zf,opQ_val,zr,zAB,zAS,List.length_nil,zAU,Nat.reduceAdd,zAV,zAT,zAG,zAH,List.replicate,Nat.reduceSub]
 refine zc (tk:=[]) (by kernel_rfl) ?_
 simp only [zl,go_os_nil,ze,zd,zo,ofVal,zf,opQ_val,zr,zAB,zAG,zAH]
 refine zc (tk:=[]) (by kernel_rfl) ?_
 simp only [zl,go_os_nil,ze,go_skip,zj,zv,peek,ofVal,zb,opQ_val,zr,zk,zAa,zD,zK,zi,zp,zAG,zAH,clr_nili,zg2,zAa,zA3,zBB,zBx]
 refine zc (tk:=[]) (by kernel_rfl) ?_
 simp only [zl,go_os_nil,zd,zo,ofVal,zf,opQ_val,zr,zAB,zAG,zAH]
 simp only [go_ret,zB,qH,Vm.Fin]
 exact ⟨trivial,[.snil],rfl,rfl,(zT rfl (zAY _)).symm⟩
end Go.Proofs.YtlnijcffanjieaaGreatDoor
namespace Go.Proofs.YtlnijcffanjieaaGreatDoor
set_option maxRecDepth 100000
open Go Go.Vm
variable {gl:Gl}
theorem znE {v:V} (h:okC v=true) (h2:v.cells.length=1):zlF Tryz.prog 36 (some v)=some (.sl 1 [v] (.yes 3)):=r36.bsl h h2
theorem zpx {H:Hp} {xs:List V} {v:V} {o:Vm.Own} (h:xs.length<=65538):jD Tryz.prog H 36 (qZ 1 3 xs) (.sl 1 [v] o)=some (qZ 1 3 (xs++[v])):=zeJ r36 (by simp) (roomA_of (by simp;omega) (by simp;omega))
theorem e44 (hg:GW gl) {n:Nat} {w:Wd} {bs:List Blk} {es:List (Nat×Nat)} {lo hi:Nat} {v:V} {nl:Bool} {t:List Nat} (hat:At bs w lo hi v) (hr:RgW w) (hh:hi<=bs.length) (hn:FW w<=n) (hn2:t.length<n) (ht:∀ b∈t,b<256) (htl:t.length<=65536) :
  ∃ bs',callA Tryz.prog gl (n+1) 44 [v,qP nl t] ⟨bs,es⟩=some (.ret (clr (qZ 1 3 (jW (yB w t)))),⟨bs',es⟩)/\bs'.length=bs.length/\∀ i,¬ (lo<=i/\i<hi)->nth bs' i=nth bs i:=by
 obtain ⟨vt,vu,rfl⟩:=hat.ifc;have hem:=fun env=>kE (lk:=[]) (df:=[]) (env:=env) (zdx hg hat (n:=n) (by have:=zbR w;omega) [])
 have hint:∀ a b:List Nat,jW a++jW b=jW (a++b):=fun a b=>by simp [jW]
 suffices hmain:go ⟨Tryz.prog,gl.g,callA Tryz.prog gl n,gl.uq⟩ n (Fx Tryz.prog Tryz.f44.results.toList fun u H1=>∃ bs',u=clr (qZ 1 3 (jW (yB w t)))/\H1=⟨bs',[]⟩/\bs'.length=bs.length/\∀ i,¬ (lo<=i/\i<hi)->nth bs' i=nth bs i) [.c (Tryz.f44.body.getD .skip)] .normal ⟨[.ifc vt vu,qP nl t]++List.replicate 32 (.tup []),⟨bs,[]⟩,[],[]⟩ by
  obtain ⟨u,H1,h1,bs',rfl,rfl,h3,h4⟩:=kM (gl:=gl) (f:=44) (bs:=bs) (es:=es) (args:=[.ifc vt vu,qP nl t]) (n:=n) (hg.hk _ _ (by decide)) (fun H=>hg.hk2 _ _ _ _) Tryz.func44 rfl hmain
  refine ⟨bs',?_,h3,h4⟩;rw [h1];have htop:(clr (qZ 1 3 (jW (yB w t)))).top=0:=by
   rw [top_clr];have:∀ l:List Nat,tops (jW l)=0:=fun l=>by induction l with|nil=>rfl|cons a l ih=>simp only [jW,zAW,tops] at ih ⊢;rw [ih];rfl
   unfold qZ;split
   ·rfl
   ·exact this _
  rw [htop];exact congrArg some (congrArg (Prod.mk _) (zT h3.symm (zAY _)))
 rw [hg.uq] at hem ⊢;simp only [Tryz.f44,zA2,ze];refine zc (tk:=[]) (by kernel_rfl) ?_
 simp only [zl,go_os_nil,ze,zd,zo,ofVal,zf,opQ_val,zr,zAB,zAV,zAT,zAG,zAH,List.replicate]
 refine zc (tk:=[]) (by kernel_rfl) ?_
 simp only [zl,go_os_nil,ze,zd,zo,ofVal,zf,opQ_val,zr,zAB,zAG,zAH]
 refine zc (tk:=[]) (by kernel_rfl) ?_
 simp only [zl,go_os_nil,ze,go_skip,zj,zv,peek,ofVal,zb,opQ_val,zr,zk,zAa,zD,zK,zi,zp,zAG,zAH,qw,zg1,zAa,zAD,zBB,zBl]
 rw [<- ze];refine zgW (fun s=>∃ env,s=⟨env,⟨bs,[]⟩,[],[]⟩/\env.length=34/\nth env 0=some (.ifc vt vu)/\nth env 1=some (qP nl t)/\nth env 5=some (qZ 1 3 (jW (if emW w then [0] else [])))) ?_ ?_
 ·simp only [ze];refine zc (tk:=[]) (by kernel_rfl) ?_
  simp only [zl,go_os_nil,go_skip,zj,peeks,peek,zb,opQ_val,zr,zk,zD,zK,zi,zp,zAG,zAH,qw,qk,hem]
  cases hw:emW w with
  | true =>
   refine .inl ⟨rfl,?_⟩;have hcl:∀ x,clr (V.sl 1 [x] (.yes 3))=.sl 1 [x] .no:=fun _=>rfl;have hap:∀ H,jD Tryz.prog H 36 .snil (.sl 1 [.int .i64 0] .no)=some (qZ 1 3 [.int .i64 0]):=fun H=>zpx (xs:=[]) (by simp)
   have tko:∀ env t,kb env t (some (qZ 1 3 [V.int .i64 0]))=some (qZ 1 3 [.int .i64 0],env.set t (.sl 1 [.int .i64 0] .no)):=fun _ _=>rfl;refine zc (tk:=[12]) (by kernel_rfl) ?_
   simp only [zl,go_os_nil,qv,zd,jI,peek,zh,ofVal,qi,zb,zf,opQ_val,zr,zAC,if_true,zi,zp,zAG,zAH,qi,qv,znE (show okC (.int .i64 0)=true from rfl) rfl,hcl,zgA,hap,tko,xS (cx:=⟨Tryz.prog,gl.g,callA Tryz.prog gl n,uqw⟩) (show uqT Tryz.prog uqw 36=false by kernel_rfl)]
   exact ⟨_,rfl,rfl,rfl,rfl,rfl⟩
  | false =>
   refine .inr ⟨rfl,?_⟩;simp only [zB,xG,zAD,if_false,xG];exact ⟨_,rfl,rfl,rfl,rfl,rfl⟩
 ·rintro s ⟨env,rfl,hel,e0,e1,e5⟩;simp only [ze];refine zc (tk:=[]) (by kernel_rfl) ?_
  simp only [zl,go_os_nil,zO,zj,qq,peek,ofVal,zb,opQ_val,zr,zAC,zAB,if_true,za,Nat.reduceLT,if_true,e1,hel,qI,za7]
  refine yF (fun m s=>∃ k env bs' w' A,m+k=t.length/\s=⟨env,⟨bs',[]⟩,[],[]⟩/\env.length=34/\nth env 0=some (.ifc vt vu)/\nth env 5=some (qZ 1 3 (jW A))/\nth env 15=some (qP nl t)/\nth env 16=some (.int .i64 t.length)/\nth env 17=some (.int .i64 (k:Nat))/\At bs' w' lo hi (.ifc vt vu)/\bs'.length=bs.length/\(∀ i,¬ (lo<=i/\i<hi)->nth bs' i=nth bs i)/\FW w'=FW w/\RgW w'/\A.length<=k+1/\yB w t=A++goEnds w' k (t.drop k)) t.length hn2 ⟨0,_,bs,w,if emW w then [0] else [],rfl,rfl,?_,?_,?_,?_,?_,?_,hat,rfl,fun _ _=>rfl,rfl,hr,?_,rfl⟩ ?_
  ·simp [hel]
  ·simp [za,e0]
  ·simp [za,e5]
  ·simp [za,hel]
  ·simp [za,hel]
  ·simp [za,hel]
  ·split<;>simp
  clear hel e0 e1 e5 env hem hat hr;rintro m s ⟨k,env,bs',w',A,hmk,rfl,hel,e0,e5,e15,e16,e17,hat,hbl,hfr,hFW,hr,hAl,hA⟩;simp only [ze];refine zc (tk:=[]) (by kernel_rfl) ?_
  simp only [zl,go_os_nil,ze,go_skip,zO,zv,peek,zb,opQ_val,zr,zq,zk,zD,zK,if_true,za,Nat.reduceLT,if_true,e16,e17,hel,wA]
  by_cases hk:k<t.length
  ·refine .inl ⟨by simp;omega,?_⟩
   obtain ⟨b,hb⟩:∃ b,t[k]?=some b:=⟨t[k],by simp [hk]⟩
   have hbl2:b<256:=ht b (zAg hb);have hdr:t.drop k=b::t.drop (k+1):=by
    rw [zBI hk];rw [zAX hk] at hb;rw [zBD hb]
   rw [hdr] at hA;simp only [goEnds] at hA;obtain ⟨bs2,a1,a2,a3,a4⟩:=zfZ hg (FW w') hat hr (by omega) (zAQ _) (n:=n) (by omega) (k == 0) b hbl2 []
   have hst:=fun env=>kE (lk:=[]) (df:=[]) (env:=env) a1;rw [hg.uq] at hst;have hk0:((k:Int) == 0)=(k == 0):=by
    cases k with
    | zero=>rfl
    | succ k=>exact (beq_false_of_ne (by omega)).trans (beq_false_of_ne (by omega)).symm
   have hN:∀ env',env'.length=34->nth env' 0=some (.ifc vt vu)->∀ A',nth env' 5=some (qZ 1 3 (jW A'))->nth env' 15=some (qP nl t)->nth env' 16=some (.int .i64 t.length)->nth env' 17=some (.int .i64 ((k+1:Nat):Int))->A'.length<=k+2->yB w t=A'++goEnds (stW w' (k == 0) b).1 (k+1) (t.drop (k+1)) ->
     ∃ i,i<m/\∃ k env bs' w' A,i+k=t.length/\(⟨env',⟨bs2,[]⟩,[],[]⟩:St)=⟨env,⟨bs',[]⟩,[],[]⟩/\env.length=34/\nth env 0=some (.ifc vt vu)/\nth env 5=some (qZ 1 3 (jW A))/\nth env 15=some (qP nl t)/\nth env 16=some (.int .i64 t.length)/\nth env 17=some (.int .i64 (k:Nat))/\At bs' w' lo hi (.ifc vt vu)/\bs'.length=bs.length/\(∀ i,¬ (lo<=i/\i<hi)->nth bs' i=nth bs i)/\FW w'=FW w/\RgW w'/\A.length<=k+1/\yB w t=A++goEnds w' k (t.drop k) :=
    fun env' g0 g1 A' g2 g3 g4 g5 g6 g7=>⟨m - 1,by omega,k+1,env',bs2,_,A',by omega,rfl,g0,g1,g2,g3,g4,g5,a2,by omega,fun i hi=>(a4 i hi).trans (hfr i hi),(FW_st _ _ _ _ (zAQ _)).trans hFW,Rg_st _ _ _ _ (zAQ _) hr,by omega,g7⟩
   try simp only [go_skip,ze,zO]
   refine zc (tk:=[]) (by kernel_rfl) ?_
   simp only [zl,go_os_nil,ze,zj,zn,zd,zG,Nat.reduceEqDiff,peek,zh,qn,zb,zf,opQ_val,zr,zq,jd,zAC,zAB,jz,if_true,za,zAR,Nat.reduceLT,if_true,if_false,e15,e17,hel,qI,jz,zpv hb,zpw]
   refine zc (tk:=[]) (by kernel_rfl) ?_
   simp only [zl,go_os_nil,go_skip,qW,zj,zv,Nat.reduceEqDiff,peeks,zN,peek,ofVal,zb,opQ_val,zr,zq,zk,zD,zK,if_true,za,zAR,Nat.reduceLT,if_true,if_false,e0,hel,qw,jH,hk0,qk,hst]
   cases hr2:(stW w' (k == 0) b).2 with
   | false =>
    rw [hr2] at hA;simp only [zAD,if_false,zAT] at hA;simp only [zAD,zBB,zBl,zAa];refine zc (tk:=[]) (by kernel_rfl) ?_
    simp only [zl,go_os_nil,zj,zv,Nat.reduceEqDiff,peek,ofVal,zb,opQ_val,zr,zq,if_true,za,zAR,Nat.reduceLT,if_true,if_false,e17,hel,jL (show k<2 ^ 60 by omega),zB,thn_normal]
    refine hN _ ?_ ?_ A ?_ ?_ ?_ ?_ (by omega) hA
    ·simp [hel]
    ·simp [za,e0]
    ·simp [za,e5]
    ·simp [za,e15]
    ·simp [za,e16]
    ·simp [za,hel]
   | true =>
    rw [hr2] at hA;simp only [if_true,<- zAb] at hA;simp only [zAa,zA3,zBB,zBx];have hcl:∀ x,clr (V.sl 1 [x] (.yes 3))=.sl 1 [x] .no:=fun _=>rfl;have hAl':(jW A).length<=65538:=by simp [jW];omega
    have hap:∀ H,jD Tryz.prog H 36 (qZ 1 3 (jW A)) (.sl 1 [.int .i64 ((k+1:Nat):Int)] .no)=some (qZ 1 3 (jW (A++[k+1]))):=fun H=>by rw [zpx hAl',<- hint];rfl
    obtain ⟨x0,xl,hX⟩:∃ x0 xl,jW (A++[k+1])=x0::xl:=by
     cases A with
     | nil=>exact ⟨_,_,rfl⟩
     | cons a A=>exact ⟨_,_,rfl⟩
    have hX2:qZ 1 3 (jW (A++[k+1]))=.sl 1 (x0::xl) (.yes 3):=by rw [hX];rfl
    have tko:∀ env t,kb env t (some (qZ 1 3 (jW (A++[k+1]))))=some (qZ 1 3 (jW (A++[k+1])),env.set t (.sl 1 (x0::xl) .no)):=fun _ _=>by rw [hX2];rfl
    cases hAc:jW A with
    | nil =>
     rw [hAc] at e5 hap;have e5':nth env 5=some .snil:=e5;have hap':∀ H,jD Tryz.prog H 36 .snil (.sl 1 [.int .i64 ((k+1:Nat):Int)] .no)=some (qZ 1 3 (jW (A++[k+1]))):=hap;refine zc (tk:=[27]) (by kernel_rfl) ?_
     simp only [zl,go_os_nil,qW,jh,qv,zv,zd,jI,ne_eq,Nat.reduceEqDiff,zAz,peek,zh,ofVal,qi,zb,zf,opQ_val,zr,zq,zAC,if_true,za,zAR,Nat.reduceLT,if_true,if_false,e5',hel,qi,qv,jL (show k<2 ^ 60 by omega),znE (show okC (.int .i64 ((k+1:Nat):Int))=true from rfl) rfl,hcl,zgA,hap',tko,xS (cx:=⟨Tryz.prog,gl.g,callA Tryz.prog gl n,uqw⟩) (show uqT Tryz.prog uqw 36=false by kernel_rfl)]
     refine zc (tk:=[]) (by kernel_rfl) ?_
     simp only [zl,go_os_nil,zj,zv,Nat.reduceEqDiff,peek,ofVal,zb,opQ_val,zr,zq,if_true,za,zAR,Nat.reduceLT,if_true,if_false,e17,hel,jL (show k<2 ^ 60 by omega),zB,thn_normal]
     refine hN _ ?_ ?_ (A++[k+1]) ?_ ?_ ?_ ?_ (by simp;omega) hA
     ·simp [hel]
     ·simp [za,e0]
     ·simp [za,hel]
     ·simp [za,e15]
     ·simp [za,e16]
     ·simp [za,hel]
    | cons a0 al =>
     rw [hAc] at e5 hap;have e5':nth env 5=some (.sl 1 (a0::al) (.yes 3)):=e5;have hap':∀ H,jD Tryz.prog H 36 (.sl 1 (a0::al) (.yes 3)) (.sl 1 [.int .i64 ((k+1:Nat):Int)] .no)=some (qZ 1 3 (jW (A++[k+1]))):=hap;have tk5:∀ env t,kb env t (some (V.sl 1 (a0::al) (.yes 3)))=some (.sl 1 (a0::al) (.yes 3),env.set t (.sl 1 (a0::al) .no)):=fun _ _=>rfl;refine zc (tk:=[27]) (by kernel_rfl) ?_
     simp only [zl,go_os_nil,qW,jh,qv,zv,zd,jI,ne_eq,Nat.reduceEqDiff,zAz,peek,zh,ofVal,zb,zf,opQ_val,zr,zq,zAC,if_true,za,zAR,Nat.reduceLT,if_true,if_false,e5',hel,tk5,qv,jL (show k<2 ^ 60 by omega),znE (show okC (.int .i64 ((k+1:Nat):Int))=true from rfl) rfl,hcl,zgA,hap',tko,xS (cx:=⟨Tryz.prog,gl.g,callA Tryz.prog gl n,uqw⟩) (show uqT Tryz.prog uqw 36=false by kernel_rfl)]
     refine zc (tk:=[]) (by kernel_rfl) ?_
     simp only [zl,go_os_nil,zj,zv,Nat.reduceEqDiff,peek,ofVal,zb,opQ_val,zr,zq,if_true,za,zAR,Nat.reduceLT,if_true,if_false,e17,hel,jL (show k<2 ^ 60 by omega),zB,thn_normal]
     refine hN _ ?_ ?_ (A++[k+1]) ?_ ?_ ?_ ?_ (by simp;omega) hA
     ·simp [hel]
     ·simp [za,e0]
     ·simp [za,hel]
     ·simp [za,e15]
     ·simp [za,e16]
     ·simp [za,hel]
  ·refine .inr ⟨by simp;omega,?_⟩
   obtain rfl:k=t.length:=by omega
   rw [List.drop_length] at hA;simp only [goEnds,zBG] at hA;rw [hA];simp only [yE,wC,kW,zB,thn_exit,ze,zBO,if_true,zB];refine zc (tk:=[]) (by kernel_rfl) ?_
   have hcc:∀ env t,kb env t (some (clr (qZ 1 3 (jW A))))=some (clr (qZ 1 3 (jW A)),env):=fun _ _=>by cases jW A<;>rfl
   simp only [zl,go_os_nil,zj,zd,Nat.reduceEqDiff,peek,zh,zb,zf,opQ_val,zr,if_true,za,zAR,Nat.reduceLT,if_true,if_false,e5,hel,hcc]
   simp only [go_ret,zB,Fx]
   refine ⟨trivial,[clr (qZ 1 3 (jW A))],?_,bs',rfl,rfl,hbl,hfr⟩;simp [zU,za,hel]
end Go.Proofs.YtlnijcffanjieaaGreatDoor
namespace Go.Proofs.YtlnijcffanjieaaGreatDoor
set_option maxRecDepth 10000
open Go Go.Vm Go.Vm.Sx
mutual
def Can:E->Prop
 | .mk _ _ _ _ _ _ _ _ _ nl args=>(nl=true->args=[])/\Cans args
def Cans:List E->Prop
 | []=>True
 | e::l=>Can e/\Cans l
end
theorem znF {nl nl':Bool} {a b:List V} (h1:nl=true->a=[]) (h2:nl'=true->b=[]) (h:jM nl a=jM nl' b):a=b/\nl=nl':=by
 unfold jM at h;cases nl with
 | true =>
  have:=h1 rfl;subst this;cases nl' with
  | true=>exact ⟨(h2 rfl).symm,rfl⟩
  | false=>simp at h
 | false =>
  cases nl' with
  | true =>
   have:=h2 rfl;subst this;simp at h
  | false =>
   simp only [zBu,zAD,if_false] at h;injection h with _ h;exact ⟨h,rfl⟩
mutual
theorem enc_inj:∀ (e e':E),Can e->Can e'->enc e=enc e'->e=e'
 | .mk op pl s0 s1 s2 s3 tx mn mx nl args,.mk op' pl' s0' s1' s2' s3' tx' mn' mx' nl' args',h,h',he=>by
  simp only [enc] at he;injection he with he;simp only [zAw,V.int.injEq,V.str.injEq,zAa,zBR] at he;obtain ⟨e1,e2,e3,e4,e5,e6,e7,e8,e9,e10⟩:=he;obtain ⟨f1,f2⟩:=znF (fun hn=>by rw [h.1 hn];rfl) (fun hn=>by rw [h'.1 hn];rfl) e10
  have:=encs_inj args args' h.2 h'.2 f1;subst e1 e2 e3 e4 e5 e6 e7 e8 e9 f2 this;rfl
theorem encs_inj:∀ (l l':List E),Cans l->Cans l'->encs l=encs l'->l=l'
 | [],[],_,_,_=>rfl
 | [],_::_,_,_,h=>by simp [encs] at h
 | _::_,[],_,_,h=>by simp [encs] at h
 | a::l,b::l',h,h',he=>by
  simp only [encs,zAw] at he;rw [enc_inj a b h.1 h'.1 he.1,encs_inj l l' h.2 h'.2 he.2]
end
end Go.Proofs.YtlnijcffanjieaaGreatDoor
