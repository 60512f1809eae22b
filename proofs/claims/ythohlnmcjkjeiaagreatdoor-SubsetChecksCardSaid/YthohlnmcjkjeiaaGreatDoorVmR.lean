/- Seat 8, subset: build, walked; Seat 8, subset: Build, walked at the empty heap. Conditions: none but those that each theorem names. -/
import Derived.Test.YthohlnmcjkjeiaaGreatDoorVmQ
namespace Go.Proofs.YthohlnmcjkjeiaaGreatDoor
set_option maxRecDepth 100000
open Go Go.Vm
variable {gl:Gl}
structure MM (f:A2.F) (m:Nat) (nx:List (Nat×Nat)) (bs:List Blk) (bm:Nat):Prop where
 mm:m=(f.s.2.length+f.f.2.length) / 8+1
 hs:∀ q∈f.s.2,QOk q
 ns:f.s.2.length<2 ^ 30
 nf:f.f.2.length<2 ^ 30
 nxl:nx.length=f.s.2.length
 M:nth bs bm=some (.cells (mkC f (nx.map fun p=>srV m p.1) (yH (wFF f) 256) (ldL (wFF f) 256)) 204)
 X:∀ p∈nx,nth bs p.1=some (.cells (bys m p.2) 5)/\p.2<2 ^ (8 * m)
theorem z66:zU Tryz.prog 66=some (.agg [.snil,.snil]):=by kernel_rfl
theorem z201:zU Tryz.prog 201=some .snil:=by kernel_rfl
theorem z207:zU Tryz.prog 207=some .nilm:=by kernel_rfl
theorem sz207:zy Tryz.prog 207=some 1:=by kernel_rfl
theorem ag66':qC Tryz.prog 66=some true:=by kernel_rfl
theorem sz66':zy Tryz.prog 66=some 2:=by kernel_rfl
theorem fo66_0:ji Tryz.prog 66 0=some 0:=by kernel_rfl
theorem in3:∃ i,Tryz.prog.info? 3=some i/\i.bytes=8:=⟨_,rfl,rfl⟩
theorem zb0 {b i l c:Nat} (h:i<l):zr Tryz.prog 27 (.sr b 0 l c) ((i:Nat):Int)=some (.ptr b i):=by
 simp only [zr,u27',sz3w];rw [if_pos (by omega)]
 simp
theorem zrw {b i:Nat} {l:List Int} (h:i<l.length):kQ [] b i 1 ((l.map A2.ie).drop i)=true:=zcw fun k hk=>by
 obtain rfl:k=0:=by omega
 exact ⟨A2.ie l[i],by rw [zBf,zAY,zAS h];rfl,rfl⟩
theorem rep3:∀ {k:Nat},(List.replicate k [V.int .i64 0]).flatten=(List.replicate k (0:Int)).map A2.ie
 | 0=>rfl
 | k+1=>by rw [zBe,List.flatten_cons,rep3,zBe];rfl
section
variable {cx:Cx} {takes:List Tmp} {dst:Option Tmp} {type:TypeId} {pos:String} {after:Array Edge} {guard:Option (Nat×Bool)} {env:List V} {H:Hp} {lk:List (Nat×Nat)} {df:List (V×List V)}
def zpz (P:Program) (t:TypeId) (x:Option V) (lo hi:Option (Option V)) (m:Option V):Option V :=
 match lo,hi,x,m with
 | some lo,some (some (.int k1 h)),some (.sl sz xs o),some (.int _ k)=>if h<=k/\k<=xs.length then kU P t (.sl sz xs o) lo (some (.int k1 h)) else none
 | _,_,_,_=>none
theorem zpA {t:TypeId} {x m:Operand} {lo hi:Option Operand}:cx.op takes ⟨dst,.slice t x lo hi (some m),type,pos,after,guard⟩ env H lk df=rdQ env H lk df (zpz cx.P t (peek env x) (peekO env lo) (peekO env hi) (peek env m)):=by
 simp only [Cx.op];refine jK ?_;simp only [zD];unfold zpz;cases peekO env lo with
 | none=>rfl
 | some lo =>
  cases peekO env hi with
  | none=>rfl
  | some hi =>
   cases peek env x with
   | none=>cases hi with
    | none=>rfl
    | some v=>cases v<;>rfl
   | some v =>
    cases peek env m with
    | none=>cases hi with
     | none=>cases v<;>rfl
     | some u=>cases u<;>cases v<;>rfl
    | some w=>cases hi with
     | none=>cases w<;>cases v<;>rfl
     | some u=>cases u<;>cases w<;>cases v<;>rfl
def zeF (P:Program) (t:TypeId) (x:Option (V×List V)) (lo:Option (Option V)) (H:Hp) (lk:List (Nat×Nat)) (df:List (V×List V)):Option (OR×St) :=
 match P.underlying t,x,lo with
 | some (.slice e'),some (.sl sz xs (.yes e),env),some (some (.int _ i))=>match zy P e' with
  | some n=>match Nat.beq n sz && decide (0<=i) && Nat.ble i.toNat xs.length with
   | true=>some (.val (.sl sz (xs.drop i.toNat) (.yes e)),⟨env,H,lk,df⟩)
   | false=>none
  | none=>none
 | _,_,_=>none
theorem zn8 {t:TypeId} {x:Operand} {lo:Option Operand} (hf:yI takes x lo none=true):cx.op takes ⟨dst,.slice t x lo none none,type,pos,after,guard⟩ env H lk df=zeF cx.P t (take env x) (peekO env lo) H lk df:=by
 simp only [Cx.op,hf,zaN,zeF];cases cx.P.underlying t with
 | none=>rfl
 | some d =>
  cases d<;>try rfl
  cases take env x with
  | none=>rfl
  | some p =>
   obtain ⟨v,e⟩:=p;cases v<;>try rfl
   rename_i sz xs o;cases o<;>try rfl
   cases peekO env lo with
   | none=>rfl
   | some l =>
    cases l with
    | none=>rfl
    | some l =>
     cases l<;>try rfl
     simp only;cases zy cx.P _ with
     | none=>rfl
     | some n =>
      simp only;generalize (Nat.beq n sz && _ && _)=bb;cases bb<;>rfl
end
structure EB7 (b most:Nat) (FN:V) (env:List V):Prop where
 len:env.length=107
 e2:nth env 2=some (.int .i64 (most:Nat))
 e3:nth env 3=some (.ptr b 0)
 e6:nth env 6=some (.ptr (b+1) 0)
 e9:nth env 9=some (.ptr (b+2) 0)
 e11:nth env 11=some (.ptr (b+5) 0)
 e12:nth env 12=some (.ptr (b+6) 0)
 e13:nth env 13=some FN
theorem zlV {z:Bool} {n e:Nat} {x:V} {xs:List V}:clr (owZ z n e (x::xs))=.sl n (x::xs) .no:=by cases z<;>rfl
theorem zpB {v:V} {wt:List V}:zpz Tryz.prog 201 (some (.sl 1 (v::wt) .no)) (some (some (.int .i64 0))) (some (some (.int .i64 1))) (some (.int .i64 1))=some (.sl 1 [v] .no):=by
 have h1:(1:Int)<=1/\(1:Int)<=(((v::wt).length:Nat):Int):=by simp only [zAj];omega
 simp only [zpz,h1,and_self,if_true];simp [kU,sz205',z8]
theorem zrh {m c:Nat}:zr Tryz.prog 201 (.sl 1 [srV m c] .no) 0=some (.vp [srV m c]):=by
 simp [zr,sz205',srV,V.cells,nth]
theorem zjC {z:Bool} {v:V} {wt env:List V} {H:Hp} {lk:List (Nat×Nat)} {df:List (V×List V)}:zeF Tryz.prog 201 (some (owZ z 1 205 (v::wt),env)) (some (some (.int .i64 1))) H lk df=some (.val (owZ true 1 205 wt),⟨env,H,lk,df⟩):=by
 rw [zn1];have hb:Nat.ble 1 (wt.length+1)=true:=zBa (by omega)
 simp [zeF,zp,sz205',owZ,hb]
theorem zlW {cx:Cx} {takes:List Tmp} {dst:Option Tmp} {type:TypeId} {pos:String} {after:Array Edge} {guard:Option (Nat×Bool)} {env:List V} {H:Hp} {lk:List (Nat×Nat)} {df:List (V×List V)} {t:TypeId} {k:Nat} {lo:Operand} (hf:takes.any (Nat.beq (1048576+k))=true):cx.op takes ⟨dst,.slice t (.tmp k) (some lo) none none,type,pos,after,guard⟩ env H lk df=zeF cx.P t (take env (.tmp k)) (peekO env (some lo)) H lk df:=zn8 hf
theorem u78w:Tryz.prog.underlying 78=some (.slice 5):=by kernel_rfl
theorem ziG {H:Hp} {b o l c:Nat}:qH Tryz.prog H 27 (.sr b o l c)=some (l:Int):=by simp only [qH,u27']
theorem r28w:RowT Tryz.prog 28 27 1 24:=⟨by kernel_rfl,by kernel_rfl,by kernel_rfl,by decide,by kernel_rfl,by kernel_rfl,by kernel_rfl⟩
theorem zqL {ws W:List Nat} {x c:Nat} {v:V} {f:Nat->V} (h:f c=v):zcY ws x (W.map f) v=(zbZ ws x W c).map f:=by
 cases hx:qU x 0 ws with
 | some k=>simp only [zcY,zbZ,hx]
 | none=>simp only [zcY,zbZ,hx,List.map_append,zAz,List.map_nil,h]
theorem w9 {cx:Cx} {n:Nat} {Q:Ex->St->Prop} {k:List It} {env0:List V} {H0:Hp} {lk0:List (Nat×Nat)} {P:List V->Hp->Prop} (h:∀ env H lk,P env H->go cx n Q k .normal ⟨env,H,lk,[]⟩) (h0:P env0 H0):go cx n Q k .normal ⟨env0,H0,lk0,[]⟩:=h _ _ _ h0
def zpX (bs:List Blk) (nxt:Nat->Nat->Nat) (s0:Nat) (lab:Nat->Int) (most:Int) (v:V) (H:Hp):Prop :=
 (∃ i NB bl es,0<i/\(zj nxt s0 i).length=i/\(qc (zj nxt s0 i):Int)<=most/\v=.tup [dnV (bs.length+7) NB ((zj nxt s0 i).map lab),.int .i64 (qc (zj nxt s0 i):Nat),.bool true]/\H=⟨bs++bl,es⟩/\RW nxt s0 (bs++bl) (bs.length+7) i NB) \/
 (∃ i labs bl es z,most<(qc (zj nxt s0 i):Int)/\v=.tup [dnV (bs.length+7) [] labs,.int .i64 z,.bool false]/\H=⟨bs++bl,es⟩)
theorem zeG {B:Nat}:∀ {l:List Int} {q:Nat},(∀ z∈l,z.toNat<B)->q<2 ^ B->vG l q<2 ^ B
 | [],q,_,hq=>hq
 | z::l,q,h,hq=>zeG (l:=l) (fun z hz=>h z (zAE _ hz)) (Nat.or_lt_two_pow hq (Nat.pow_lt_pow_right (by decide) (h z (zAL ..))))
theorem zeH {B:Nat} {rows:List A2.Ints} (h:∀ row∈rows,∀ z∈row.2,z.toNat<B):∀ {l:List Int} {q:Nat},q<2 ^ B->z7 rows l q<2 ^ B
 | [],q,hq=>hq
 | r::l,q,hq=>by
  refine zeH (l:=l) h ?_;refine zeG (fun z hz=>?_) hq;cases hr:rows[r.toNat]? with
  | none=>rw [hr] at hz;simp at hz
  | some row=>rw [hr] at hz;exact h row (zAb hr) z hz
set_option maxHeartbeats 1000000 in
theorem zjD (hg:GS gl) {n bm m most:Nat} {f:A2.F} {nx:List (Nat×Nat)} {act:A2.Ints} {bs:List Blk} {es:List (Nat×Nat)} (hn:m+1000<=n) (hm1:m<2 ^ 36) (hmost:most<=600) (hM:MM f m nx bs bm)
  (ha:∀ r∈act.2,0<=r/\r.toNat<f.f.2.length) (hr:∀ row∈f.f.2,row.2.length<n - 2/\row.2.length<2 ^ 60/\∀ z∈row.2,0<=z/\z.toNat<f.s.2.length+f.f.2.length) (han:act.2.length<n - 2) (hal:act.2.length<2 ^ 60) :
  ∃ v H',zk Tryz.prog gl (n+1) 74 [.ptr bm 0,A2.iv act,.int .i64 (most:Nat)] ⟨bs,es⟩=some (.ret v,H')/\zpX bs (nxF f nx m) (z7 f.f.2 act.2 0) (fun w=>vH f.s.2.length (j8 m w) (-1)) most v H':=by
 obtain ⟨nxt,hnxt⟩:∃ x,x=nxF f nx m:=⟨_,rfl⟩;obtain ⟨s0,hs0⟩:∃ x,x=z7 f.f.2 act.2 0:=⟨_,rfl⟩;obtain ⟨lab,hlab⟩:∃ x:Nat->Int,x=fun w=>vH f.s.2.length (j8 m w) (-1):=⟨_,rfl⟩;rw [<- hnxt,<- hs0,<- hlab]
 suffices hmain:(go ⟨Tryz.prog,gl,zk Tryz.prog gl n,uqS⟩ n (Fx Tryz.prog Tryz.f74.results.toList fun v H1=>zpX bs nxt s0 lab most v H1) [.c (Tryz.f74.body.getD .skip)] .normal ⟨[.ptr bm 0,A2.iv act,.int .i64 (most:Nat)]++List.replicate 104 (.tup []),⟨bs,[]⟩,[],[]⟩) by
  obtain ⟨v,H1,h0,hp⟩:=z0 (gl:=gl) (f:=74) (bs:=bs) (es:=es) (args:=[.ptr bm 0,A2.iv act,.int .i64 (most:Nat)]) (n:=n) (hg.hk _ _ (by decide)) (fun H=>hg.hk2 _ _ _ _ (by decide)) Tryz.func74 rfl (by rw [hg.uq];exact hmain)
  rcases hp with ⟨i,NB,bl,es1,q1,q2,q3,rfl,rfl,q6⟩|⟨i,labs,bl,es1,z,q1,rfl,rfl⟩
  ·obtain ⟨k,hk⟩:∃ k,k∈NB:=by
    cases NB with
    | nil=>have:=q6.len;simp at this;omega
    | cons k l=>exact ⟨k,zAL ..⟩
   have hkept:zL bs.length es (V.tup [dnV (bs.length+7) NB ((zj nxt s0 i).map lab),.int .i64 (qc (zj nxt s0 i):Nat),.bool true]).top ⟨bs++bl,es1⟩=⟨bs++bl,es1++es⟩:=by
    refine yF ?_;have h1:(rwV (bs.length+7) k).top<=tops (NB.map (rwV (bs.length+7))):=zg (zAo.2 ⟨k,hk,rfl⟩);have h2:(clr (zp 1 27 (NB.map (rwV (bs.length+7))))).top=tops (NB.map (rwV (bs.length+7))):=by rw [top_clr,zbX]
    simp only [rwV,V.top] at h1;simp only [dnV,V.top,tops,h2];omega
   exact ⟨_,_,h0,.inl ⟨i,NB,bl,_,q1,q2,q3,rfl,hkept,q6⟩⟩
  ·have hf:∃ bl' es',zL bs.length es (V.tup [dnV (bs.length+7) [] labs,.int .i64 z,.bool false]).top ⟨bs++bl,es1⟩=⟨bs++bl',es'⟩:=by
    unfold zL;split
    ·exact ⟨[],_,by rw [List.take_left,zBB]⟩
    ·exact ⟨bl,_,rfl⟩
   obtain ⟨bl',es',hf⟩:=hf;exact ⟨_,_,h0,.inr ⟨i,labs,bl',es',z,q1,rfl,hf⟩⟩
 have hml:bm<bs.length:=by have:=hM.M;rw [zd] at this;exact (zAB.1 this).1
 simp only [Tryz.f74,zAs,zA];refine ze (tk:=[]) (by kernel_rfl) ?_
 simp only [BA,zc,zh,zAQ,zAN,List.replicate,jG (v:=.ptr bm 0) rfl,show V.laid (.ptr bm 0)=[.ptr bm 0] from rfl,z66,jI (show okC (V.agg [.snil,.snil])=true from rfl),V.cells];refine ze (tk:=[]) (by kernel_rfl) ?_
 simp only [BA,zc,Nat.reduceAdd,zAQ,zAN,z66,jI (show okC (V.agg [.snil,.snil])=true from rfl),V.cells];refine ze (tk:=[]) (by kernel_rfl) ?_
 simp only [BA,zc,Nat.reduceAdd,zh,zi,zAQ,zAN,zet,z207,jI (show okC V.nilm=true from rfl),V.cells,zcB]
 have hst1:∀ env,qZ Tryz.prog 207 ⟨bs++[.cells [.ptr bm 0] 141,.cells [.snil,.snil] 66,.cells [.snil,.snil] 66,.map [],.cells [.nilm] 207],[]⟩ [] [] (some (.map (bs.length+3),env)) (some (.ptr (bs.length+4) 0))=some (.skip,⟨env,⟨bs++[.cells [.ptr bm 0] 141,.cells [.snil,.snil] 66,.cells [.snil,.snil] 66,.map [],.cells [.map (bs.length+3)] 207],[]⟩,[],[]⟩):=fun env=>by
  rw [zT sz207 (cs:=[.nilm]) (ty:=207) (Go.Vm.get_at.trans rfl) rfl rfl (by simp) rfl,v4 (by simp [V.top])]
  simp only [Hp.set,w8];rfl
 simp only [hst1,opQ_skip,putA]
 refine ze (tk:=[]) (by kernel_rfl) ?_
 simp only [BA,zc,Nat.reduceAdd,zh,zi,zAQ,zAN,z3w,jI (show okC (V.int .i64 0)=true from rfl),V.cells]
 have hst2:∀ env,qZ Tryz.prog 3 ⟨bs++[.cells [.ptr bm 0] 141,.cells [.snil,.snil] 66,.cells [.snil,.snil] 66,.map [],.cells [.map (bs.length+3)] 207,.cells [.int .i64 0] 3],[]⟩ [] [] (some (.int .i64 1,env)) (some (.ptr (bs.length+5) 0))=some (.skip,⟨env,⟨bs++[.cells [.ptr bm 0] 141,.cells [.snil,.snil] 66,.cells [.snil,.snil] 66,.map [],.cells [.map (bs.length+3)] 207,.cells [.int .i64 1] 3],[]⟩,[],[]⟩):=fun env=>by
  rw [zT sz3w (cs:=[.int .i64 0]) (ty:=3) (Go.Vm.get_at.trans rfl) rfl rfl (by simp) rfl,v4 (by simp [V.top])]
  simp only [Hp.set,w8];rfl
 simp only [hst2,opQ_skip,putA]
 refine ze (tk:=[]) (by kernel_rfl) ?_
 simp only [BA,zc,Nat.reduceAdd,zAQ,zAN,z201,jI (show okC V.snil=true from rfl),V.cells];refine ze (tk:=[]) (by kernel_rfl) ?_
 simp only [BA,zh,zi,zAQ,zAN,zjs];have hH0:bs++[Blk.cells [.ptr bm 0] 141,.cells [.snil,.snil] 66,.cells [.snil,.snil] 66,.map [],.cells [.map (bs.length+3)] 207,.cells [.int .i64 1] 3,.cells [.snil] 201]=hbB bs bm m lab [] [] false [] []:=rfl;rw [hH0];have hsc:∀ c,clr (srV m c)=srV m c:=fun _=>rfl
 obtain ⟨FN,hFN⟩:∃ F,F=V.fn (.func 111) [] [.ptr (bs.length+4) 0,.ptr (bs.length+5) 0,.ptr (bs.length+6) 0,.ptr (bs.length+2) 0,.ptr bs.length 0]:=⟨_,rfl⟩;have hfnc:clr FN=FN:=by rw [hFN];rfl
 have hfnt:∀ env t,qE env t (some FN)=some (FN,env):=fun _ _=>by rw [hFN];rfl
 have hfnv:∀ v H,Cx.callV ⟨Tryz.prog,gl.g,zk Tryz.prog gl n,uqS⟩ FN [v] H=Cx.callF ⟨Tryz.prog,gl.g,zk Tryz.prog gl n,uqS⟩ 111 [clr v,.ptr (bs.length+4) 0,.ptr (bs.length+5) 0,.ptr (bs.length+6) 0,.ptr (bs.length+2) 0,.ptr bs.length 0] H:=fun v H=>by rw [hFN,ziu rfl];rfl
 rw [<- hFN];simp only [hfnt,zdO,opQ_val,putA,zAQ,zAN]
 have hns40:f.s.2.length<2 ^ 40:=Nat.lt_trans hM.ns (by decide)
 have hs0l:s0<2 ^ (8 * m):=by
  rw [hs0]
  exact zeH (fun row hrow z hz=>by
   have:=((hr row hrow).2.2 z hz).2;have:=hM.mm
   omega) (Nat.pow_pos (by decide))
 have hml8:0<m:=by have:=hM.mm;omega
 have hBM:∀ N ws z wait rest,nth (hbB bs bm m lab N ws z wait rest) bm=some (.cells (mkC f (nx.map fun p=>srV m p.1) (yH (wFF f) 256) (ldL (wFF f) 256)) 204):=fun _ _ _ _ _=>(zg0 hml).trans hM.M;have l141:∀ N ws z wait rest es,zn Tryz.prog ⟨hbB bs bm m lab N ws z wait rest,es⟩ gl.g 141 (.ptr bs.length 0)=some (.ptr bm 0):=fun _ _ _ _ _ _=>zu ag141' (show Hp.get _ _=_ from hbB_0) rfl
 obtain ⟨b7,hb7⟩:∃ b7,b7=bs.length+7:=⟨_,rfl⟩;obtain ⟨n1,rfl⟩:∃ n1,n=n1+1+1+1+1:=⟨n - 4,by omega⟩
 have hstart:Cx.callF ⟨Tryz.prog,gl.g,zk Tryz.prog gl (n1+4),uqS⟩ 113 [.ptr bm 0,A2.iv act] ⟨hbB bs bm m lab [] [] false [] [],[]⟩=some (.val (srV m (bs.length+7+0)),⟨hbB bs bm m lab [] [] false [] [.cells (bys m s0) 5],[]⟩):=by
  refine zw Tryz.func113 rfl ?_;have:=zlO hg (n:=n1+2) (es:=[]) (act:=act) (Nat.lt_trans hM.ns (by decide)) (Nat.lt_trans hM.nf (by decide)) hM.mm ha (fun row hrow=>⟨by have:=(hr row hrow).1;omega,(hr row hrow).2⟩) (by omega) hal (hBM [] [] false [] []) rfl rfl
  rw [hbB_push,zaz,<- hs0] at this;exact this
 have hfound:∀ {ws:List Nat} {w c:Nat} {z:Bool} {wait N:List V} {rest:List Blk} {es:List (Nat×Nat)},wait.length<2 ^ 39->ws.length<2 ^ 39->w<2 ^ (8 * m)->(∀ x∈ws,x<2 ^ (8 * m))->nth rest c=some (.cells (bys m w) 5)->tops wait<=bs.length+7+rest.length ->
   ∃ es' j,Cx.callF ⟨Tryz.prog,gl.g,zk Tryz.prog gl (n1+4),uqS⟩ 111 [srV m (bs.length+7+c),.ptr (bs.length+4) 0,.ptr (bs.length+5) 0,.ptr (bs.length+6) 0,.ptr (bs.length+2) 0,.ptr bs.length 0] ⟨hbB bs bm m lab N ws z wait rest,es⟩=some (.val (.int .i64 (j:Nat)),⟨hbB bs bm m lab N (yk ws w) z (zcY ws w wait (srV m (bs.length+7+c))) rest,es'⟩)/\qU w 0 (yk ws w)=some j:=by
  intro ws w c z wait N rest es q1 q2 q3 q4 q5 q6;obtain ⟨es',j,h1,h2⟩:=zlU hg (z:=z) (n:=n1+3) (es:=es) (N:=N) (by omega) q1 q2 hml8 hm1 q3 q4 hns40 hM.M rfl q5 q6
  rw [<- hlab] at h1;exact ⟨es',j,zw Tryz.func111 rfl h1,h2⟩
 obtain ⟨es1,j1,hf1,hj1⟩:=hfound (ws:=[]) (z:=false) (wait:=[]) (N:=[]) (es:=[]) (c:=0) (rest:=[.cells (bys m s0) 5]) (by simp) (by simp) hs0l (by simp) rfl (by simp [tops])
 refine ze (tk:=[]) (by kernel_rfl) ?_
 simp only [BA,Nat.reduceAdd,zh,zi,zAQ,zAN,hfnc,l141,A2.clr_iv,hstart,zer,zab,hsc,hfnv,hf1]
 refine jU (fun k s=>∃ i env W z wait rest es NB lk,k+i=700/\s=⟨env,⟨hbB bs bm m lab (NB.map (rwV b7)) (zj nxt s0 i) z wait rest,es⟩,lk,[]⟩/\EB7 bs.length most FN env/\wait=W.map (fun c=>srV m (b7+c))/\WF m rest ((zj nxt s0 i).drop i) W/\i<=(zj nxt s0 i).length/\(qc (zj nxt s0 i)<=most\/i=0)/\RW nxt s0 rest 0 i NB) 700 (by omega) ?_ ?_
 ·refine ⟨0,_,[0],_,_,_,_,[],_,rfl,rfl,⟨rfl,rfl,rfl,rfl,rfl,rfl,rfl,rfl⟩,by rw [hb7];rfl,.cons rfl .nil,zAW _,.inr rfl,.nil⟩
 clear hf1 hj1 es1 j1 hstart;rintro k s ⟨i,env,W,z,wait,rest,es,NB,lk0,hki,rfl,he,hwait,hW,hi,hcm,hR⟩;have hlen:=he.len;have hwl:wait.length=(zj nxt s0 i).length - i:=by rw [hwait,zAU,hW.len,List.length_drop]
 have hnd:=zad (nxt:=nxt) (s0:=s0) i;have hcl:=zeA hnd;have l201:∀ N ws z wait rest es,zn Tryz.prog ⟨hbB bs bm m lab N ws z wait rest,es⟩ gl.g 201 (.ptr (bs.length+6) 0)=some (owZ z 1 205 wait):=fun _ _ _ _ _ _=>zu ag201' (show Hp.get _ _=_ from jr (k:=6)) rfl
 have l3:∀ N ws z wait rest es,zn Tryz.prog ⟨hbB bs bm m lab N ws z wait rest,es⟩ gl.g 3 (.ptr (bs.length+5) 0)=some (.int .i64 (qc ws:Nat)):=fun _ _ _ _ _ _=>zu ag3w (show Hp.get _ _=_ from jr (k:=5)) rfl;simp only [zA];refine ze (tk:=[]) (by kernel_rfl) ?_
 by_cases hgo:i<(zj nxt s0 i).length/\qc (zj nxt s0 i)<=most
 ·obtain ⟨hil,hcmo⟩:=hgo;have hd:decide ((0:Int)<((wait.length:Nat):Int))=true:=by simp;omega
  have hd2:decide (((qc (zj nxt s0 i):Nat):Int)<=((most:Nat):Int))=true:=by simp;omega
  simp only [BA,Nat.reduceEqDiff,za,zAF,Nat.reduceLT,if_false,zh,zi,yg,qS,wl,wantB_tt,zaK,hlen,he.e12,he.e11,he.e2,l201,l3,clr_owZ2,zex u201',zdc,zdb,gt_iff_lt,hd,hd2];refine .inl ?_;obtain ⟨w,hwi⟩:∃ w,(zj nxt s0 i)[i]?=some w:=⟨_,zAS hil⟩;have hdr:(zj nxt s0 i).drop i=w::(zj nxt s0 i).drop (i+1):=by
   obtain ⟨h1,h2⟩:=zAB.1 hwi;rw [List.drop_eq_getElem_cons h1,h2]
  rw [hdr] at hW;obtain ⟨c0,W',rfl,hc0,hW'⟩:∃ c0 W',W=c0::W'/\nth rest c0=some (.cells (bys m w) 5)/\WF m rest ((zj nxt s0 i).drop (i+1)) W':=by
   cases hW with
   | cons h t=>exact ⟨_,_,rfl,h,t⟩
  obtain ⟨wt,hwt⟩:∃ wt,wt=W'.map fun c=>srV m (b7+c):=⟨_,rfl⟩;obtain rfl:wait=srV m (b7+c0)::wt:=by rw [hwait,hwt];rfl
  refine ze (tk:=[]) (by kernel_rfl) ?_
  simp only [BA,Nat.reduceEqDiff,za,zAF,Nat.reduceLT,if_false,hlen,he.e12,l201,zpA,peekO,zlV,zpB,zrh,zpV,hsc];have hltB:∀ N ws z wait rest,bs.length+6<(hbB bs bm m lab N ws z wait rest).length:=fun _ _ _ _ _=>by rw [zaz];omega
  have hlod9:∀ N ws z wait rest es env,x6 Tryz.prog 201 env ⟨hbB bs bm m lab N ws z wait rest,es⟩ [] [] (some (.ptr (bs.length+6) 0))=some (.val (owZ z 1 205 wait),⟨env,⟨(hbB bs bm m lab N ws z wait rest).set (bs.length+6) (.cells ([owZ z 1 205 wait].set 0 (lkZ z 1 wait)) 201),es⟩,lcZ z (bs.length+6) 0 wait,[]⟩):=fun _ _ _ _ _ _ _=>zrf ag201' (jr (k:=6)) rfl
  have hsto9:∀ N ws z wait rest es env,qZ Tryz.prog 201 ⟨(hbB bs bm m lab N ws z wait rest).set (bs.length+6) (.cells ([owZ z 1 205 wait].set 0 (lkZ z 1 wait)) 201),es⟩ (lcZ z (bs.length+6) 0 wait) [] (some (owZ true 1 205 wt,env)) (some (.ptr (bs.length+6) 0))=some (.skip,⟨env,⟨hbB bs bm m lab N ws true wt rest,kO es (bs.length+6) (owZ true 1 205 wt)⟩,lcZ z (bs.length+6) 0 wait,[]⟩):=fun _ _ _ _ _ _ _=>by
   rw [zrg r201.st (hltB _ _ _ _ _) (by simp) rfl rfl]
   rw [show ([owZ _ 1 205 _]:List V).set 0 (owZ true 1 205 wt)=[owZ true 1 205 wt] from rfl,zn4]
  refine ze (tk:=[39,1048615]) (by kernel_rfl) ?_
  simp only [BA,Nat.reduceEqDiff,za,zAF,Nat.reduceLT,if_false,hlen,he.e12,hsc,zfE,hlod9,zau (takes:=[39,1048615]) (d:=39) rfl,zlW (takes:=[39,1048615]) (k:=39) rfl,peekO,zjC,hsto9];obtain ⟨i3,hi3,hi3b⟩:=in3
  have hmk:∀ (k:Nat) (N:List V) (ws:List Nat) (z:Bool) (wait:List V) (rest:List Blk) (es:List (Nat×Nat)) (tk:List Tmp) (dst:Option Tmp) (ty:TypeId) (pos:String) (af:Array Edge) (env:List V) (lo:Operand),0<k->k<=256->peek env lo=some (.int .i64 (k:Nat)) ->
    Cx.op ⟨Tryz.prog,gl.g,zk Tryz.prog gl (n1+4),uqS⟩ tk ⟨dst,.makeSlice 27 lo lo,ty,pos,af,none⟩ env ⟨hbB bs bm m lab N ws z wait rest,es⟩ [] []=some (.val (.sr (b7+rest.length) 0 k k),⟨env,⟨hbB bs bm m lab N ws z wait (rest++[.cells ((List.replicate k (0:Int)).map A2.ie) 3]),es⟩,[],[]⟩):=by
   intro k N ws z wait rest es tk dst ty pos af env lo hk0 hk1 hlo;rw [zkw (k:=k) u27' sz3w z3w rfl hi3 (by decide) rfl rfl hlo hlo (by rw [hi3b];exact roomA_of (by omega) (by omega)) (by omega)]
   show some (OR.val (V.sr (hbB bs bm m lab N ws z wait rest).length 0 k k),St.mk env ⟨hbB bs bm m lab N ws z wait rest++[.cells (List.replicate k [V.int .i64 0]).flatten 3],es⟩ [] [])=_;rw [zaz,hbB_push,rep3,hb7]
  have hst27:∀ b o l c env t,qE env t (some (.sr b o l c))=some (.sr b o l c,env):=fun _ _ _ _ _ _=>rfl;have hcl27:∀ b o l c,clr (.sr b o l c)=.sr b o l c:=fun _ _ _ _=>rfl
  refine w9 (P:=fun env H=>∃ es,H=⟨hbB bs bm m lab (NB.map (rwV b7)) (zj nxt s0 i) true wt rest,es⟩/\EB7 bs.length most FN env/\nth env 14=some (srV m (b7+c0))) ?_ ⟨_,rfl,⟨by simp [hlen],by simp [za,he.e2],by simp [za,he.e3],by simp [za,he.e6],by simp [za,he.e9],by simp [za,he.e11],by simp [za,he.e12],by simp [za,he.e13]⟩,by simp [za,hlen]⟩
  clear he hlen es env;rintro env H lk ⟨es,rfl,he,e14⟩;have hlen:=he.len;refine ze (tk:=[]) (by kernel_rfl) ?_
  rw [zku,hmk 256 _ _ _ _ _ _ _ _ _ _ _ _ _ (by decide) (by decide) rfl]
  obtain ⟨R0,hR0⟩:∃ R0:List Int,R0=List.replicate 256 0:=⟨_,rfl⟩;rw [<- hR0];simp only [BA,za,Nat.reduceLT,hlen,hst27];obtain ⟨rest1,hrest1⟩:∃ r,r=rest++[Blk.cells (R0.map A2.ie) 3]:=⟨_,rfl⟩;rw [<- hrest1]
  have hLD:∀ N ws z wait rest es,zn Tryz.prog ⟨hbB bs bm m lab N ws z wait rest,es⟩ gl.g 78 (.ptr bm 261)=some (ldL (wFF f) 256):=fun _ _ _ _ _ _=>zu ag78' (show Hp.get _ _=_ from hBM _ _ _ _ _) (znY (zbW (zAO _)));obtain ⟨nc,hnc,hnp,hncn⟩:∃ nc,nc=ncF f/\0<nc/\nc<=256:=⟨_,rfl,zpw,zqK⟩;have hldl:∀ H,qH Tryz.prog H 78 (clr (ldL (wFF f) 256))=some ((nc:Nat):Int):=fun H=>by
   rw [ldL,zin u78w,zAU,hnc];rfl
  have hldc:clr (clr (ldL (wFF f) 256))=clr (ldL (wFF f) 256):=x8;have hptr:derefA (V.ptr bm 0)=some (.ptr bm 0):=rfl;refine ze (tk:=[]) (by kernel_rfl) ?_
  simp only [BA,Nat.reduceEqDiff,za,zAF,Nat.reduceLT,if_false,hlen,he.e3,l141,hptr,fo204_3,hLD,hldc,hldl];rw [hmk nc _ _ _ _ _ _ _ _ _ _ _ _ _ hnp hncn (by simp [peek,za,hlen,clr])]
  simp only [BA,Nat.reduceEqDiff,za,zAF,Nat.reduceLT,if_false,hlen,hst27];obtain ⟨T0,hT0⟩:∃ T0:List Int,T0=List.replicate (nc) 0:=⟨_,rfl⟩;rw [<- hT0];obtain ⟨rest2,hrest2⟩:∃ r,r=rest1++[Blk.cells (T0.map A2.ie) 3]:=⟨_,rfl⟩;rw [<- hrest2];obtain ⟨kr,hkr⟩:∃ k,k=rest.length:=⟨_,rfl⟩;have hkt:rest1.length=kr+1:=by rw [hrest1,hkr];simp
  rw [<- hkr,hkt];have hr2T:nth rest2 (kr+1)=some (.cells (T0.map A2.ie) 3):=by
   rw [hrest2,zd,zAP (by omega),hkt];simp
  have hr2R:nth rest2 kr=some (.cells (R0.map A2.ie) 3):=by
   rw [hrest2,zd,zAR (by omega),hrest1,zAP (by omega),hkr];simp
  have hr2:∀ d,d<kr->nth rest2 d=nth rest d:=fun d hd=>by
   rw [hrest2,zd,zd,zAR (by omega),hrest1,zAR (by omega)]
  clear hrest1 hrest2;have hldi:∀ {N:List V} {ws:List Nat} {z:Bool} {wait:List V} {rest:List Blk} {es:List (Nat×Nat)} {k j:Nat} {L:List Int} {v:Int},nth rest k=some (.cells (L.map A2.ie) 3)->L[j]?=some v->zn Tryz.prog ⟨hbB bs bm m lab N ws z wait rest,es⟩ gl.g 3 (.ptr (b7+k) j)=some (.int .i64 v):=by
   intro N ws z wait rest es k j L v h1 h2;have hgk:Hp.get ⟨hbB bs bm m lab N ws z wait rest,es⟩ (b7+k)=some (.cells (L.map A2.ie) 3):=by
    show nth _ _=_;rw [hb7,hbB_R,h1]
   exact zu ag3w hgk (show nth (L.map A2.ie) j=_ by rw [zd,zAY,h2];rfl)
  have hsti:∀ {N:List V} {ws:List Nat} {z:Bool} {wait:List V} {rest:List Blk} {es:List (Nat×Nat)} {k j:Nat} {L:List Int} {v:Int} {env:List V},nth rest k=some (.cells (L.map A2.ie) 3)->j<L.length->qZ Tryz.prog 3 ⟨hbB bs bm m lab N ws z wait rest,es⟩ [] [] (some (.int .i64 v,env)) (some (.ptr (b7+k) j))=some (.skip,⟨env,⟨hbB bs bm m lab N ws z wait (rest.set k (.cells ((L.set j v).map A2.ie) 3)),es⟩,[],[]⟩):=by
   intro N ws z wait rest es k j L v env h1 h2;have hgk:Hp.get ⟨hbB bs bm m lab N ws z wait rest,es⟩ (b7+k)=some (.cells (L.map A2.ie) 3):=by
    show nth _ _=_;rw [hb7,hbB_R,h1]
   rw [zT sz3w hgk rfl rfl (by rw [zAU];omega) (zrw h2),v4 (by simp [V.top])]
   show some (OR.skip,St.mk env ⟨(hbB bs bm m lab N ws z wait rest).set (b7+k) _,es⟩ [] [])=_;rw [hb7,zn3];simp only [V.laid,Vm.storeCells,List.map_set];rfl
  have hset:∀ {rest:List Blk} {k d:Nat} {x y:Blk},nth rest k=some x->nth (rest.set k y) d=if d=k then some y else nth rest d:=by
   intro rest k d x y h1;have hk:k<rest.length:=by rw [zd] at h1;exact (zAB.1 h1).1
   rw [zd,zd,zAl]
   by_cases e:k=d
   ·subst e;simp [hk]
   ·rw [if_neg e,if_neg (fun e'=>e e'.symm)]
  refine w9 (P:=fun env H=>∃ es,H=⟨hbB bs bm m lab (NB.map (rwV b7)) (zj nxt s0 i) true wt rest2,es⟩/\EB7 bs.length most FN env/\nth env 14=some (srV m (b7+c0))/\nth env 15=some (.sr (b7+kr) 0 256 256)/\nth env 16=some (.sr (b7+(kr+1)) 0 (nc) (nc))) ?_ ⟨_,rfl,⟨by simp [hlen],by simp [za,he.e2],by simp [za,he.e3],by simp [za,he.e6],by simp [za,he.e9],by simp [za,he.e11],by simp [za,he.e12],by simp [za,he.e13]⟩,by simp [za,e14],by simp [za,hlen],by simp [za,hlen]⟩
  clear he hlen es env e14;rintro env H lk ⟨es,rfl,he,e14,e15,e16⟩;have hlen:=he.len;refine ze (tk:=[]) (by kernel_rfl) ?_
  simp only [BA,za,Nat.reduceLT,hlen,e16,hcl27,ziG]
  refine jU (fun k2 s=>∃ (j:Nat) (env:List V) (rest3:List Blk) (T:List Int),k2+j=nc/\s=⟨env,⟨hbB bs bm m lab (NB.map (rwV b7)) (zj nxt s0 i) true wt rest3,es⟩,[],[]⟩/\EB7 bs.length most FN env/\nth env 14=some (srV m (b7+c0))/\nth env 15=some (.sr (b7+kr) 0 256 256)/\nth env 16=some (.sr (b7+(kr+1)) 0 (nc) (nc))/\nth env 48=some (.sr (b7+(kr+1)) 0 (nc) (nc))/\nth env 49=some (.int .i64 (nc:Nat))/\nth env 50=some (.int .i64 (j:Nat))/\nth rest3 (kr+1)=some (.cells (T.map A2.ie) 3)/\(∀ d,d<kr+1->nth rest3 d=nth rest2 d)/\T.length=nc/\∀ c,c<j->T[c]?=some (-1)) (nc) (by omega) ?_ ?_
  ·refine ⟨0,_,rest2,T0,rfl,rfl,⟨by simp [hlen],by simp [za,he.e2],by simp [za,he.e3],by simp [za,he.e6],by simp [za,he.e9],by simp [za,he.e11],by simp [za,he.e12],by simp [za,he.e13]⟩,by simp [za,e14],by simp [za,e15],by simp [za,e16],by simp [za,hlen],by simp [za,hlen],by simp [za,hlen],hr2T,fun _ _=>rfl,by rw [hT0,List.length_replicate],fun c hc=>by omega⟩
  clear he hlen env e14 e15 e16;rintro k2 s ⟨j,env,rest3,T,hk2,rfl,he,e14,e15,e16,e48,e49,e50,hT,hr3,hTl,hTn⟩;have hlen:=he.len;simp only [zA];refine ze (tk:=[]) (by kernel_rfl) ?_
  simp only [BA,za,Nat.reduceLT,hlen,e49,e50,je]
  by_cases hj:j<nc
  ·refine .inl ⟨by simp;omega,?_⟩
   refine ze (tk:=[]) (by kernel_rfl) ?_
   simp only [BA,Nat.reduceEqDiff,za,zAF,Nat.reduceLT,if_false,hlen,e50];refine ze (tk:=[]) (by kernel_rfl) ?_
   simp only [BA,Nat.reduceEqDiff,za,zAF,Nat.reduceLT,if_false,hlen,e16,hcl27,zb0 hj,hsti hT (show j<T.length by omega)]
   refine ze (tk:=[]) (by kernel_rfl) ?_
   simp only [BA,Nat.reduceEqDiff,za,zAF,Nat.reduceLT,if_false,hlen,e50,q9 (show j<2 ^ 60 by omega),zx,thn_normal]
   refine ⟨nc - 1 - j,by omega,j+1,_,_,T.set j (-1),by omega,rfl,⟨by simp [hlen],by simp [za,he.e2],by simp [za,he.e3],by simp [za,he.e6],by simp [za,he.e9],by simp [za,he.e11],by simp [za,he.e12],by simp [za,he.e13]⟩,by simp [za,e14],by simp [za,e15],by simp [za,e16],by simp [za,e48],by simp [za,e49],by simp [za,hlen],by rw [hset hT,if_pos rfl],fun d hd=>by rw [hset hT,if_neg (by omega)];exact hr3 d hd,by rw [zAF];exact hTl,fun c hc=>?_⟩
   rw [zAl]
   by_cases e:j=c
   ·subst e;simp [show j<T.length by omega]
   ·rw [if_neg e];exact hTn c (by omega)
  ·obtain rfl:nc=j:=by omega
   refine .inr ⟨by simp,?_⟩
   simp only [ju,qh,zZ,zx,thn_exit,zA,zAu,if_true]
   have hNBk:∀ k∈NB,k<kr:=fun k hk=>by have:=hR.lt k hk;omega
   have hr3':∀ d,d<kr->nth rest3 d=nth rest d:=fun d hd=>(hr3 d (by omega)).trans (hr2 d hd)
   have hlt:∀ {c u},nth rest c=some (.cells (bys m u) 5)->nth rest3 c=some (.cells (bys m u) 5):=fun {c u} h=>by
    have:c<kr:=by rw [hkr];rw [zd] at h;exact (zAB.1 h).1
    rw [hr3' c this,h]
   have hI0:RInv m i kr c0 nc w nxt s0 (clF f) (zj nxt s0 i) NB 0 0 rest3 W' R0 T :=
    {wf:=hW'.mono fun c u h=>hlt h,hc0:=hlt hc0,hR:=(hr3 kr (by omega)).trans hr2R,Rl:=by rw [hR0,List.length_replicate],Rv:=fun b hb=>by omega,hT:=hT,Tl:=hTl
     Tv:=fun c v hv=>.inl ⟨by
      have hc:c<T.length:=(zAB.1 hv).1;rw [hTn c (by omega)] at hv
      exact (zAr hv).symm,fun b hb=>by omega⟩
     rw:=hR.mono fun k x hk h=>by rw [zA0] at h ⊢;rw [hr3' k (hNBk k hk),h]
     nb:=hNBk }
   refine ze (tk:=[]) (by kernel_rfl) ?_
   simp only [BA,Nat.reduceEqDiff,za,zAF,Nat.reduceLT,if_false,hlen,e15,hcl27,ziG]
   refine jU (fun k3 s=>∃ (y:Nat) (env:List V) (rest4:List Blk) (W2:List Nat) (R2 T2:List Int) (es:List (Nat×Nat)),k3+y=256/\s=⟨env,⟨hbB bs bm m lab (NB.map (rwV b7)) (qd (zj nxt s0 i) (nxt w) y) true (W2.map fun c=>srV m (b7+c)) rest4,es⟩,[],[]⟩/\EB7 bs.length most FN env/\nth env 14=some (srV m (b7+c0))/\nth env 15=some (.sr (b7+kr) 0 256 256)/\nth env 16=some (.sr (b7+(kr+1)) 0 nc nc)/\nth env 58=some (.int .i64 ((256:Nat):Int))/\nth env 59=some (.int .i64 (y:Nat))/\qc (qd (zj nxt s0 i) (nxt w) y)<=most/\RInv m i kr c0 nc w nxt s0 (clF f) (zj nxt s0 i) NB y y rest4 W2 R2 T2) 256 (by omega) ?_ ?_
   ·exact ⟨0,_,rest3,W',R0,T,_,rfl,by rw [hwt];rfl,⟨by simp [hlen],by simp [za,he.e2],by simp [za,he.e3],by simp [za,he.e6],by simp [za,he.e9],by simp [za,he.e11],by simp [za,he.e12],by simp [za,he.e13]⟩,by simp [za,e14],by simp [za,e15],by simp [za,e16],by simp [za,hlen],by simp [za,hlen],hcmo,hI0⟩
   clear he hlen env e14 e15 e16 e48 e49 e50 hI0 hT hr3 hr3' hTl hTn hlt T rest3 hr2T hr2R hr2 hT0 hc0 hW';rintro k3 s ⟨y,env,rest4,W2,R2,T2,es,hk3,rfl,he,e14,e15,e16,e58,e59,hcy,hI⟩;have hlen:=he.len;simp only [zA];refine ze (tk:=[]) (by kernel_rfl) ?_
   simp only [BA,za,Nat.reduceLT,hlen,e58,e59,je]
   by_cases hy:y<256
   ·refine .inl ⟨by simp;omega,?_⟩
    obtain ⟨c,hc⟩:∃ c,(clF f)[y]?=some c:=⟨_,zAS (by rw [zkQ];exact hy)⟩
    have hcn:c<nc:=by rw [hnc];exact zn6 hc
    obtain ⟨v,hv⟩:∃ v,T2[c]?=some v:=⟨_,zAS (by rw [hI.Tl];exact hcn)⟩
    have hcg:∀ b,(clF f)[b]?=some c->nxt w b=nxt w y:=fun b hb=>by rw [hnxt];exact zpx hb hc
    have hldC:∀ N ws z wait rest es,zn Tryz.prog ⟨hbB bs bm m lab N ws z wait rest,es⟩ gl.g 3 (.ptr bm (5+y))=some (.int .i64 (c:Nat)):=fun N ws z wait rest es=>by
     refine zu ag3w (cs:=mkC f (nx.map fun p:Nat×Nat=>srV m p.1) (yH (wFF f) 256) (ldL (wFF f) 256)) (ty:=204) (show Hp.get ⟨hbB bs bm m lab N ws z wait rest,es⟩ bm=_ from hBM _ _ _ _ _) ?_;rw [zd,zkP (by rw [zbW (zAO _)];exact hy)]
     rw [yH,zAR (by rw [zAU];exact (zAB.1 hc).1),zAY]
     rw [show (mkS (wFF f) 256).2.1[y]?=some c from hc];rfl
    refine ze (tk:=[]) (by kernel_rfl) ?_
    simp only [BA,Nat.reduceEqDiff,za,zAF,Nat.reduceLT,if_false,hlen,e59];refine ze (tk:=[]) (by kernel_rfl) ?_
    simp only [BA,Nat.reduceEqDiff,za,zAF,Nat.reduceLT,if_false,hlen,he.e3,l141,hptr,fo204_2,zjw hy,hldC];refine ze (tk:=[]) (by kernel_rfl) ?_
    simp only [BA,Nat.reduceEqDiff,za,zAF,Nat.reduceLT,if_false,hlen,e16,hcl27,zb0 hcn,hldi hI.hT hv,je]
    let PP:List V->Hp->Prop:=fun env H=>∃ (rest5:List Blk) (W3:List Nat) (T3:List Int) (es:List (Nat×Nat)),H=⟨hbB bs bm m lab (NB.map (rwV b7)) (qd (zj nxt s0 i) (nxt w) (y+1)) true (W3.map fun c=>srV m (b7+c)) rest5,es⟩/\EB7 bs.length most FN env/\nth env 14=some (srV m (b7+c0))/\nth env 15=some (.sr (b7+kr) 0 256 256)/\nth env 16=some (.sr (b7+(kr+1)) 0 nc nc)/\nth env 18=some (.int .i64 (y:Nat))/\nth env 19=some (.int .i64 (c:Nat))/\nth env 58=some (.int .i64 ((256:Nat):Int))/\nth env 59=some (.int .i64 (y:Nat))/\qc (qd (zj nxt s0 i) (nxt w) (y+1))<=most/\RInv m i kr c0 nc w nxt s0 (clF f) (zj nxt s0 i) NB (y+1) y rest5 W3 R2 T3
    have hnxl:nxt w y<2 ^ (8 * m):=by rw [hnxt];exact zjB fun p hp=>(hM.X p hp).2
    have hwsl:∀ x∈qd (zj nxt s0 i) (nxt w) y,x<2 ^ (8 * m):=zg1 (zeD hs0l (fun w y=>by rw [hnxt];exact zjB fun p hp=>(hM.X p hp).2) i) (fun y=>by rw [hnxt];exact zjB fun p hp=>(hM.X p hp).2) y
    have hv0:v<0\/¬ v<0:=Decidable.em _;rcases hv0 with hv0|hv0
    rotate_left
    obtain ⟨hrw,hI1⟩:=hI.old hc hv hv0 hcg;refine .inr ⟨by simpa using hv0,?_⟩
    try simp only [go_skip]
    refine w9 (P:=PP) ?_ ⟨rest4,W2,T2,_,by rw [hrw],⟨by simp [hlen],by simp [za,he.e2],by simp [za,he.e3],by simp [za,he.e6],by simp [za,he.e9],by simp [za,he.e11],by simp [za,he.e12],by simp [za,he.e13]⟩,by simp [za,e14],by simp [za,e15],by simp [za,e16],by simp [za,hlen],by simp [za,hlen],by simp [za,e58],by simp [za,e59],by rw [hrw];exact hcy,hI1⟩
    rotate_left
    refine .inl ⟨by simpa using hv0,?_⟩
    obtain ⟨X4,hX4⟩:∃ X4:List Blk,X4=[.cells [.ptr bm 0] 141,.cells [.int .u8 (y:Nat)] 5,.cells (bys m (nxt w y)) 5,.cells [srV m (b7+rest4.length+2)] 205]:=⟨_,rfl⟩;have hI4:=hI.app X4;obtain ⟨rest5,hrest5⟩:∃ r,r=rest4++X4:=⟨_,rfl⟩;rw [<- hrest5] at hI4;have hcn5:nth rest5 (rest4.length+2)=some (.cells (bys m (nxt w y)) 5):=by
     rw [hrest5,hX4,zd,zAP (by omega),zBw];rfl
    have hleads:∀ es,Cx.callF ⟨Tryz.prog,gl.g,zk Tryz.prog gl (n1+4),uqS⟩ 114 [.ptr bm 0,srV m (b7+c0),.int .u8 (y:Nat)] ⟨hbB bs bm m lab (NB.map (rwV b7)) (qd (zj nxt s0 i) (nxt w) y) true (W2.map fun c=>srV m (b7+c)) rest4,es⟩=some (.val (srV m (b7+(rest4.length+2))),⟨hbB bs bm m lab (NB.map (rwV b7)) (qd (zj nxt s0 i) (nxt w) y) true (W2.map fun c=>srV m (b7+c)) rest5,es⟩):=fun es=>by
     refine zw Tryz.func114 rfl ?_
     have:=zlN hg (n:=n1) (bm:=bm) (b:=b7+c0) (m:=m) (w:=w) (y:=y) (f:=f) (nx:=nx) (es:=es) hm1 (by omega) (by omega) hy hM.hs (Nat.lt_trans hM.ns (by decide)) (Nat.lt_trans hM.nf (by decide)) hM.mm hM.nxl (hBM (NB.map (rwV b7)) (qd (zj nxt s0 i) (nxt w) y) true (W2.map fun c=>srV m (b7+c)) rest4) rfl rfl rfl (fun p hp=>by
      obtain ⟨h1,h2⟩:=hM.X p hp;refine ⟨?_,h2⟩;have hlt:p.1<bs.length:=by rw [zd] at h1;exact (zAB.1 h1).1
      rw [zg0 hlt,h1]) (by rw [hb7,hbB_R,hI.hc0])
     rw [this,zpu,zaz,hrest5,hX4,hnxt,hb7,zBJ];rfl
    obtain ⟨es6,j6,hf6,hj6⟩:=hfound (ws:=qd (zj nxt s0 i) (nxt w) y) (w:=nxt w y) (c:=rest4.length+2) (z:=true) (wait:=W2.map fun c=>srV m (b7+c)) (N:=NB.map (rwV b7)) (rest:=rest5) (es:=es) (by
     rw [zAU,hI.wf.len,List.length_drop];have:=zeA (xh (g:=nxt w) hnd y);omega) (by
     have:=zeA (xh (g:=nxt w) hnd y);omega) hnxl hwsl hcn5 (zN fun v hv=>by
      obtain ⟨d,hd,rfl⟩:=zAo.1 hv;have:=hI4.wf.lt d hd
      simp only [srV,V.top];omega)
    have hwN:zcY (qd (zj nxt s0 i) (nxt w) y) (nxt w y) (W2.map fun c=>srV m (b7+c)) (srV m (bs.length+7+(rest4.length+2)))=(zbZ (qd (zj nxt s0 i) (nxt w) y) (nxt w y) W2 (rest4.length+2)).map fun c=>srV m (b7+c):=by
     rw [hb7];exact zqL rfl
    rw [hwN,<- hb7] at hf6;have hpre:i+1<=(qd (zj nxt s0 i) (nxt w) y).length:=by
     obtain ⟨rs,e⟩:=zfG (ws:=zj nxt s0 i) (g:=nxt w) y;rw [e,zAi];omega
    have hI6:=hI4.new hc hcn5 hpre hj6;have hcT:c<T2.length:=by rw [hI.Tl];exact hcn
    refine ze (tk:=[]) (by kernel_rfl) ?_
    simp only [BA,Nat.reduceEqDiff,Nat.reduceAdd,za,zAF,Nat.reduceLT,if_false,hlen,e16,e14,he.e3,he.e13,hcl27,hsc,hfnc,l141,vQ (a:=3) (b:=5) (hm:=rfl),show uqS (kb 3)=false from rfl,zjx hy,hleads,zer,zab,hfnv,hf6,zb0 hcn,hsti hI4.hT hcT];have hrwS:yk (qd (zj nxt s0 i) (nxt w) y) (nxt w y)=qd (zj nxt s0 i) (nxt w) (y+1):=rfl;rw [hrwS]
    have hsetS:zj nxt s0 (i+1)=qd (zj nxt s0 i) (nxt w) 256:=by simp only [zj,hwi]
    refine ze (tk:=[]) (by kernel_rfl) ?_
    simp only [BA,Nat.reduceEqDiff,za,zAF,Nat.reduceLT,if_false,hlen,he.e11,he.e2,l3,zdc,gt_iff_lt];rcases Decidable.em (most<qc (qd (zj nxt s0 i) (nxt w) (y+1))) with hmo|hmo
    ·refine .inl ⟨by simp;omega,?_⟩
     have hst66:∀ N ws z wait rest es env,qZ Tryz.prog 66 ⟨hbB bs bm m lab N ws z wait rest,es⟩ [] [] (some (.agg [.snil,.snil],env)) (some (.ptr (bs.length+1) 0))=some (.skip,⟨env,⟨hbB bs bm m lab N ws z wait rest,es⟩,[],[]⟩):=fun N ws z wait rest es env=>by
      have hgk:Hp.get ⟨hbB bs bm m lab N ws z wait rest,es⟩ (bs.length+1)=some (.cells [.snil,.snil] 66):=jr (k:=1);rw [zT sz66' hgk rfl rfl (by simp) rfl,v4 (by simp [V.top,tops])]
      show some (OR.skip,St.mk env ⟨(hbB bs bm m lab N ws z wait rest).set (bs.length+1) (.cells [.snil,.snil] 66),es⟩ [] [])=_;rw [q8 hgk]
     have hl66:∀ N ws z wait rest es,zn Tryz.prog ⟨hbB bs bm m lab N ws z wait rest,es⟩ (fun _ _=>none) 66 (.ptr (bs.length+1) 0)=some (.agg [.snil,.snil]):=fun N ws z wait rest es=>by
      have hgk:Hp.get ⟨hbB bs bm m lab N ws z wait rest,es⟩ (bs.length+1)=some (.cells [.snil,.snil] 66):=jr (k:=1);rw [qF,hgk,qi,jj,ag66',sz66'];rfl
     have hbld:∀ env,kV Tryz.prog 66 #[] env=some (.agg [.snil,.snil]):=fun env=>by kernel_rfl
     refine yD (tk:=[]) (by kernel_rfl) ?_
     apply Exists.intro;apply And.intro;refine zK (m:=0) (v:=.agg [.snil,.snil]) (by kernel_rfl) rfl (by simp only [BA,hbld];rfl) (by kernel_rfl) (by kernel_rfl) (by kernel_rfl) ?_
     dsimp only [putA]
     refine q7 (m:=0) (v:=.int .i64 (qc (qd (zj nxt s0 i) (nxt w) (y+1)):Nat)) (by kernel_rfl) rfl (by simp only [BA,Nat.reduceEqDiff,za,zAF,Nat.reduceLT,if_false,hlen,he.e11,l3];rfl) (by kernel_rfl) (by kernel_rfl) (by kernel_rfl) (by kernel_rfl) ?_
     dsimp only [putA]
     refine vF (m:=1) (cs':=[⟨4,⟨hbB bs bm m lab (NB.map (rwV b7)) (qd (zj nxt s0 i) (nxt w) (y+1)) true ((zbZ (qd (zj nxt s0 i) (nxt w) y) (nxt w y) W2 (rest4.length+2)).map fun c=>srV m (b7+c)) (rest5.set (kr+1) (Blk.cells (List.map A2.ie (T2.set c (j6:Int))) 3)),es6⟩,[],[]⟩,⟨0,⟨hbB bs bm m lab (NB.map (rwV b7)) (qd (zj nxt s0 i) (nxt w) (y+1)) true ((zbZ (qd (zj nxt s0 i) (nxt w) y) (nxt w y) W2 (rest4.length+2)).map fun c=>srV m (b7+c)) (rest5.set (kr+1) (Blk.cells (List.map A2.ie (T2.set c (j6:Int))) 3)),es6⟩,[],[]⟩]) (by kernel_rfl) rfl (by simp only [BA,Nat.reduceEqDiff,za,zAF,Nat.reduceLT,if_false,hlen,he.e6,hst66];rfl) (by kernel_rfl) (by kernel_rfl) (fun K=>?_) ?_
     rotate_left
     dsimp only [putA]
     refine zK (m:=7) (v:=.int .i64 (qc (qd (zj nxt s0 i) (nxt w) (y+1)):Nat)) (by kernel_rfl) rfl (by simp only [BA,Nat.reduceEqDiff,za,zAF,Nat.reduceLT,if_false,hlen];rfl) (by kernel_rfl) (by kernel_rfl) (by kernel_rfl) ?_
     dsimp only [putA]
     refine zK (m:=15) (v:=.bool false) (by kernel_rfl) rfl (by simp only [BA];rfl) (by kernel_rfl) (by kernel_rfl) (by kernel_rfl) yE
     ·simp only [putA];simp only [go_ret,zx,Fx,zbN,zas,thn_ret]
      refine ⟨trivial,[.agg [.snil,.snil],.int .i64 (qc (qd (zj nxt s0 i) (nxt w) (y+1)):Nat),.bool false],?_,.inr ⟨i+1,[],_,_,_,?_,rfl,rfl⟩⟩
      ·simp only [zt,za,zAF,hlen,Nat.reduceLT,Nat.reduceEqDiff,if_true,if_false,he.e6,hl66,qV]
      ·rw [hsetS];obtain ⟨rs,e⟩:=zey (ws:=zj nxt s0 i) (g:=nxt w) (y:=y+1) (256 - (y+1));rw [show y+1+(256 - (y+1))=256 by omega] at e
       have:=ziE (ws:=qd (zj nxt s0 i) (nxt w) (y+1)) (rs:=rs);rw [e];omega
     ·refine jZ ?_ ?_ ?_ ?_
      ·kernel_rfl
      ·rfl
      ·intro c hc;cases hc
      ·unfold Cx.newOk;refine kH fun q hq=>?_;simp only [zAK,zBI,zBs] at hq;rcases hq with rfl|rfl
       ·split
        ·rfl
        ·split
         ·rename_i h;cases h
         ·refine zfD ?_;exact valC_of (by simp only [BA,Nat.reduceEqDiff,za,zAF,Nat.reduceLT,if_false,jL,hlen,he.e11,l3];rfl)
       ·kernel_rfl
    refine .inr ⟨by simp;omega,?_⟩
    try simp only [go_skip]
    refine w9 (P:=PP) ?_ ⟨_,_,_,_,rfl,⟨by simp [hlen],by simp [za,he.e2],by simp [za,he.e3],by simp [za,he.e6],by simp [za,he.e9],by simp [za,he.e11],by simp [za,he.e12],by simp [za,he.e13]⟩,by simp [za,e14],by simp [za,e15],by simp [za,e16],by simp [za,hlen],by simp [za,hlen],by simp [za,e58],by simp [za,e59],by omega,hI6⟩
    all_goals
     clear hI hv hv0 e14 e15 e16 e58 e59 hlen he hcy;rintro env H lk ⟨rest5,W3,T3,es,rfl,he,e14,e15,e16,e18,e19,e58,e59,hcy,hI⟩;have hlen:=he.len;obtain ⟨v,hv⟩:∃ v,T3[c]?=some v:=⟨_,zAS (by rw [hI.Tl];exact hcn)⟩
     obtain ⟨j7,rfl,hj7⟩:=hI.val hc hv hcg;have hyR:y<R2.length:=by rw [hI.Rl];exact hy
     refine ze (tk:=[]) (by kernel_rfl) ?_
     simp only [BA,Nat.reduceEqDiff,za,zAF,Nat.reduceLT,if_false,hlen,e15,e16,e18,e19,hcl27,zb0 hcn,zb0 hy,hldi hI.hT hv,hsti hI.hR hyR];refine ze (tk:=[]) (by kernel_rfl) ?_
     simp only [BA,Nat.reduceEqDiff,za,zAF,Nat.reduceLT,if_false,e59,hlen,q9 (show y<2 ^ 60 by omega),zx,thn_normal]
     exact ⟨255 - y,by omega,y+1,_,_,W3,_,T3,_,by omega,rfl,⟨by simp [hlen],by simp [za,he.e2],by simp [za,he.e3],by simp [za,he.e6],by simp [za,he.e9],by simp [za,he.e11],by simp [za,he.e12],by simp [za,he.e13]⟩,by simp [za,e14],by simp [za,e15],by simp [za,e16],by simp [za,e58],by simp [za,hlen],hcy,hI.row hy hj7⟩
   ·obtain rfl:256=y:=by have:=hk3;omega
    refine .inr ⟨by simp,?_⟩
    simp only [ju,qh,zZ,zx,thn_exit,zAu,if_true]
    obtain ⟨hRW,hWF⟩:=hI.done hwi;have hsetS:zj nxt s0 (i+1)=qd (zj nxt s0 i) (nxt w) 256:=by simp only [zj,hwi]
    rw [<- hsetS] at hcy ⊢;have hNl:(NB.map (rwV b7)).length=i:=by rw [zAU,hR.len]
    have hltB2:∀ N ws z wait rest,bs.length+2<(hbB bs bm m lab N ws z wait rest).length:=fun _ _ _ _ _=>by rw [zaz];omega
    have hlod2:∀ env,x6 Tryz.prog 28 env ⟨hbB bs bm m lab (NB.map (rwV b7)) (zj nxt s0 (i+1)) true (W2.map fun c=>srV m (b7+c)) rest4,es⟩ [] [] (some (.ptr (bs.length+2) 0))=some (.val (zp 1 27 (NB.map (rwV b7))),⟨env,⟨(hbB bs bm m lab (NB.map (rwV b7)) (zj nxt s0 (i+1)) true (W2.map fun c=>srV m (b7+c)) rest4).set (bs.length+2) (.cells ([zp 1 27 (NB.map (rwV b7)),zp 1 3 ((zj nxt s0 (i+1)).map fun w=>A2.ie (lab w))].set 0 (lkL 1 (NB.map (rwV b7)))) 66),es⟩,kR (bs.length+2) 0 (NB.map (rwV b7)),[]⟩):=fun env=>zac ag28' (jr (k:=2)) rfl
    have hbsl:=r28w.bsl (v:=.sr (b7+kr) 0 256 256) rfl rfl;have happ:∀ H,zV Tryz.prog H 28 (zp 1 27 (NB.map (rwV b7))) (.sl 1 [.sr (b7+kr) 0 256 256] .no)=some (zp 1 27 (NB.map (rwV b7)++[.sr (b7+kr) 0 256 256])):=fun H=>wc r28w (by simp) (roomA_of (by rw [hNl];simp;omega) (by rw [hNl];simp;omega))
    have hsto2:∀ env,qZ Tryz.prog 28 ⟨(hbB bs bm m lab (NB.map (rwV b7)) (zj nxt s0 (i+1)) true (W2.map fun c=>srV m (b7+c)) rest4).set (bs.length+2) (.cells ([zp 1 27 (NB.map (rwV b7)),zp 1 3 ((zj nxt s0 (i+1)).map fun w=>A2.ie (lab w))].set 0 (lkL 1 (NB.map (rwV b7)))) 66),es⟩ (kR (bs.length+2) 0 (NB.map (rwV b7))) [] (some (zp 1 27 (NB.map (rwV b7)++[.sr (b7+kr) 0 256 256]),env)) (some (.ptr (bs.length+2) 0))=some (.skip,⟨env,⟨hbB bs bm m lab ((NB++[kr]).map (rwV b7)) (zj nxt s0 (i+1)) true (W2.map fun c=>srV m (b7+c)) rest4,kO es (bs.length+2) (zp 1 27 (NB.map (rwV b7)++[.sr (b7+kr) 0 256 256]))⟩,kR (bs.length+2) 0 (NB.map (rwV b7)),[]⟩):=fun env=>by
     rw [zaw r28w.st (hltB2 _ _ _ _ _) (by simp)]
     rw [show ([zp 1 27 (NB.map (rwV b7)),zp 1 3 ((zj nxt s0 (i+1)).map fun w=>A2.ie (lab w))]:List V).set 0 (zp 1 27 (NB.map (rwV b7)++[.sr (b7+kr) 0 256 256]))=[zp 1 27 (NB.map (rwV b7)++[.sr (b7+kr) 0 256 256]),zp 1 3 ((zj nxt s0 (i+1)).map fun w=>A2.ie (lab w))] from rfl,zn5,List.map_append];rfl
    refine ze (tk:=[97]) (by kernel_rfl) ?_
    simp only [BA,Nat.reduceEqDiff,za,zAF,Nat.reduceLT,if_false,hlen,e15,he.e9,fo66_0,hcl27,hlod2,hbsl,zeU,happ,hsto2,vd (cx:=⟨Tryz.prog,gl.g,zk Tryz.prog gl (n1+4),uqS⟩) (show uqT Tryz.prog uqS 28=false by kernel_rfl),zx,thn_normal]
    have hpre:i+1<=(zj nxt s0 (i+1)).length:=by
     obtain ⟨rs,e⟩:=zez (nxt:=nxt) (s0:=s0) (Nat.le_succ i);rw [e,zAi];omega
    exact ⟨k - 1,by omega,i+1,_,W2,true,_,rest4,_,NB++[kr],_,by omega,rfl,⟨by simp [hlen],by simp [za,he.e2],by simp [za,he.e3],by simp [za,he.e6],by simp [za,he.e9],by simp [za,he.e11],by simp [za,he.e12],by simp [za,he.e13]⟩,rfl,hWF,hpre,.inl hcy,hRW⟩
 ·have l66:∀ N ws z wait rest es,zn Tryz.prog ⟨hbB bs bm m lab N ws z wait rest,es⟩ gl.g 66 (.ptr (bs.length+2) 0)=some (.agg [zp 1 27 N,zp 1 3 (ws.map fun w=>A2.ie (lab w))]):=fun N ws z wait rest es=>by
   have hgk:Hp.get ⟨hbB bs bm m lab N ws z wait rest,es⟩ (bs.length+2)=some (.cells [zp 1 27 N,zp 1 3 (ws.map fun w=>A2.ie (lab w))] 66):=jr (k:=2);rw [qF,hgk,qi,jj,ag66',sz66'];simp [xK]
  let PE:List V->Hp->Prop:=fun env H=>H=⟨hbB bs bm m lab (NB.map (rwV b7)) (zj nxt s0 i) z wait rest,es⟩/\EB7 bs.length most FN env
  rcases zAZ i (zj nxt s0 i).length with hil|hil
  have hd:decide ((0:Int)<((wait.length:Nat):Int))=true:=by simp;omega
  have hd2:decide (((qc (zj nxt s0 i):Nat):Int)<=((most:Nat):Int))=false:=by
   simp only [decide_eq_false_iff_not];intro h;exact hgo ⟨hil,by omega⟩
  simp only [BA,Nat.reduceEqDiff,za,zAF,Nat.reduceLT,if_false,zh,zi,yg,qS,wl,wantB_tt,zaK,hlen,he.e12,he.e11,he.e2,l201,l3,clr_owZ2,zex u201',zdc,zdb,gt_iff_lt,hd,hd2];refine .inr ?_
  simp only [ju,qh,zZ,zx,thn_exit,zA,zAu,if_true]
  refine w9 (P:=PE) ?_ ⟨rfl,⟨by simp [hlen],by simp [za,he.e2],by simp [za,he.e3],by simp [za,he.e6],by simp [za,he.e9],by simp [za,he.e11],by simp [za,he.e12],by simp [za,he.e13]⟩⟩
  rotate_left
  have hd:decide ((0:Int)<((wait.length:Nat):Int))=false:=by
   rw [show wait.length=0 by omega];rfl
  simp only [BA,Nat.reduceEqDiff,za,zAF,Nat.reduceLT,if_false,zh,zi,yg,qS,wl,wantB_tf,zaL,hlen,he.e12,he.e11,he.e2,l201,l3,clr_owZ2,zex u201',zdc,zdb,gt_iff_lt,hd];refine .inr ?_
  simp only [ju,qh,zZ,zx,thn_exit,zA,zAu,if_true]
  refine w9 (P:=PE) ?_ ⟨rfl,⟨by simp [hlen],by simp [za,he.e2],by simp [za,he.e3],by simp [za,he.e6],by simp [za,he.e9],by simp [za,he.e11],by simp [za,he.e12],by simp [za,he.e13]⟩⟩
  all_goals
   clear hd he hlen;rintro env H lk ⟨rfl,he⟩;have hlen:=he.len;obtain ⟨DV,hDV⟩:∃ D,D=[clr (zp 1 27 (NB.map (rwV b7))),clr (zp 1 3 ((zj nxt s0 i).map fun w=>A2.ie (lab w)))]:=⟨_,rfl⟩;obtain ⟨DR,hDR⟩:∃ D,D=[zp 1 27 (NB.map (rwV b7)),zp 1 3 ((zj nxt s0 i).map fun w=>A2.ie (lab w))]:=⟨_,rfl⟩;have l66':=l66 (NB.map (rwV b7)) (zj nxt s0 i) z wait rest es;rw [<- hDR] at l66'
   obtain ⟨B',hB'⟩:∃ B',B'=(hbB bs bm m lab (NB.map (rwV b7)) (zj nxt s0 i) z wait rest).set (bs.length+1) (.cells DV 66):=⟨_,rfl⟩;obtain ⟨e',he'⟩:∃ e',e'=kO es (bs.length+1) (.agg DR):=⟨_,rfl⟩;have hDc:DR.map clr=DV:=by rw [hDV,hDR];rfl
   have hD2:DV.length=2:=by rw [hDV];rfl
   have hDk:okC (.agg DR)=true:=by rw [hDR];rfl
   have hg1:Hp.get ⟨hbB bs bm m lab (NB.map (rwV b7)) (zj nxt s0 i) z wait rest,es⟩ (bs.length+1)=some (.cells [.snil,.snil] 66):=jr (k:=1);have hg1':nth (hbB bs bm m lab (NB.map (rwV b7)) (zj nxt s0 i) z wait rest) (bs.length+1)=some (.cells [.snil,.snil] 66):=hg1
   have hstF:∀ env,qZ Tryz.prog 66 ⟨hbB bs bm m lab (NB.map (rwV b7)) (zj nxt s0 i) z wait rest,es⟩ [] [] (some (.agg DR,env)) (some (.ptr (bs.length+1) 0))=some (.skip,⟨env,⟨B',e'⟩,[],[]⟩):=fun env=>by
    rw [zT sz66' hg1 hDk (by show (DR.map clr).length=2;rw [hDc,hD2]) (by simp) rfl]
    simp only [Hp.set,edge_eq];rw [show V.laid (.agg DR)=DV from hDc];have:Vm.storeCells [.snil,.snil] 0 DV=DV:=by rw [hDV];rfl
    rw [this,<- hB',<- he']
   have l3':zn Tryz.prog ⟨B',e'⟩ gl.g 3 (.ptr (bs.length+5) 0)=some (.int .i64 (qc (zj nxt s0 i):Nat)):=by
    have hg5:Hp.get ⟨B',e'⟩ (bs.length+5)=some (.cells [.int .i64 (qc (zj nxt s0 i):Nat)] 3):=by
     show nth B' _=_;rw [hB',qN hg1',if_neg (by omega)]
     exact jr (k:=5)
    exact zu ag3w hg5 rfl
   have l66r:zn Tryz.prog ⟨B',e'⟩ (fun _ _=>none) 66 (.ptr (bs.length+1) 0)=some (.agg DV):=by
    have hg5:Hp.get ⟨B',e'⟩ (bs.length+1)=some (.cells DV 66):=by
     show nth B' _=_;rw [hB',qN hg1',if_pos rfl]
    rw [qF,hg5,qi,jj,ag66',sz66',hDV];simp [xK]
   have hDt:∀ env t,qE env t (some (.agg DR))=some (.agg DR,env):=fun _ _=>rfl;refine yD (tk:=[]) (by kernel_rfl) ?_
   apply Exists.intro;apply And.intro;refine q7 (m:=0) (v:=.agg DR) (by kernel_rfl) rfl (by simp only [BA,he.e9,l66'];rfl) (by kernel_rfl) (by kernel_rfl) (by kernel_rfl) (by kernel_rfl) ?_
   dsimp only [putA]
   refine q7 (m:=0) (v:=.int .i64 (qc (zj nxt s0 i):Nat)) (by kernel_rfl) rfl (by simp only [BA,Nat.reduceEqDiff,za,Nat.reduceLT,if_false,hlen,he.e11,l3];rfl) (by kernel_rfl) (by kernel_rfl) (by kernel_rfl) (by kernel_rfl) ?_
   dsimp only [putA]
   refine q7 (m:=0) (v:=.int .i64 (qc (zj nxt s0 i):Nat)) (by kernel_rfl) rfl (by simp only [BA,Nat.reduceEqDiff,za,zAF,Nat.reduceLT,if_false,hlen,he.e11,l3];rfl) (by kernel_rfl) (by kernel_rfl) (by kernel_rfl) (by kernel_rfl) ?_
   dsimp only [putA]
   refine zK (m:=0) (v:=.int .i64 (most:Nat)) (by kernel_rfl) rfl (by simp only [BA,Nat.reduceEqDiff,za,zAF,Nat.reduceLT,if_false,hlen,he.e2];rfl) (by kernel_rfl) (by kernel_rfl) (by kernel_rfl) ?_
   dsimp only [putA]
   refine zK (m:=12) (v:=.bool (decide (((qc (zj nxt s0 i):Nat):Int)<=((most:Nat):Int)))) (by kernel_rfl) rfl (by simp only [BA,Nat.reduceEqDiff,za,zAF,Nat.reduceLT,if_false,hlen,zdb];rfl) (by kernel_rfl) (by kernel_rfl) (by kernel_rfl) ?_
   dsimp only [putA]
   refine vF (m:=1) (cs':=[⟨32,⟨B',e'⟩,[],[]⟩,⟨0,⟨hbB bs bm m lab (NB.map (rwV b7)) (zj nxt s0 i) z wait rest,es⟩,[],[]⟩]) (by kernel_rfl) rfl (by simp only [BA,Nat.reduceEqDiff,za,zAF,Nat.reduceLT,if_false,hlen,he.e6,hDt,hstF];rfl) (by kernel_rfl) (by kernel_rfl) (fun K=>?_) ?_
   rotate_left
   dsimp only [putA]
   refine zK (m:=35) (v:=.int .i64 (qc (zj nxt s0 i):Nat)) (by kernel_rfl) rfl (by simp only [BA,Nat.reduceEqDiff,za,zAF,Nat.reduceLT,if_false,hlen];rfl) (by kernel_rfl) (by kernel_rfl) (by kernel_rfl) ?_
   dsimp only [putA]
   refine zK (m:=127) (v:=.bool (decide (((qc (zj nxt s0 i):Nat):Int)<=((most:Nat):Int)))) (by kernel_rfl) rfl (by simp only [BA,Nat.reduceEqDiff,za,zAF,Nat.reduceLT,if_false,hlen];rfl) (by kernel_rfl) (by kernel_rfl) (by kernel_rfl) yE
   ·simp only [putA];simp only [go_ret,zx,Fx]
    refine ⟨trivial,[.agg DV,.int .i64 (qc (zj nxt s0 i):Nat),.bool (decide (((qc (zj nxt s0 i):Nat):Int)<=((most:Nat):Int)))],?_,?_⟩
    ·simp only [zt,za,zAF,hlen,Nat.reduceLT,Nat.reduceEqDiff,if_true,if_false,he.e6,l66r,qV]
    ·obtain ⟨bl,hbl⟩:∃ bl,B'=bs++bl:=⟨_,by rw [hB',hbB,w8]⟩
     have htup:tupOf [.agg DV,.int .i64 (qc (zj nxt s0 i):Nat),.bool (decide (((qc (zj nxt s0 i):Nat):Int)<=((most:Nat):Int)))]=.tup [.agg DV,.int .i64 (qc (zj nxt s0 i):Nat),.bool (decide (((qc (zj nxt s0 i):Nat):Int)<=((most:Nat):Int)))]:=rfl;have hdn:V.agg DV=dnV (bs.length+7) NB ((zj nxt s0 i).map lab):=by
      rw [dnV,hDV,hb7,List.map_map];rfl
     rw [htup,hdn];rcases zAZ most (qc (zj nxt s0 i)) with hc1|hc1
     ·have h0:i=0:=by
       rcases hcm with h|h
       ·omega
       ·exact h
      have hNB:NB=[]:=List.eq_nil_of_length_eq_zero (by rw [hR.len,h0])
      rw [hNB,decide_eq_false (by omega)]
      exact .inr ⟨i,(zj nxt s0 i).map lab,bl,e',(qc (zj nxt s0 i):Nat),by omega,rfl,by rw [hbl]⟩
     ·have hlen0:0<(zj nxt s0 i).length:=by
       obtain ⟨rs,e⟩:=zez (nxt:=nxt) (s0:=s0) (zAW i);rw [e];simp [zj]
      have hile:(zj nxt s0 i).length=i:=by
       rcases zAZ i (zj nxt s0 i).length with h|h
       ·exact absurd ⟨h,hc1⟩ hgo
       ·omega
      have hRW:RW nxt s0 B' (bs.length+7) i NB:=hR.mono fun k x hk h=>by
       rw [zA0] at h;rw [hB',qN hg1',if_neg (by omega),hbB_R,h]
      rw [hbl] at hRW;rw [decide_eq_true (by omega)]
      exact .inl ⟨i,NB,bl,e',by omega,hile,by omega,rfl,by rw [hbl],hRW⟩
   ·refine jZ ?_ ?_ ?_ ?_
    ·kernel_rfl
    ·rfl
    ·intro c hc;cases hc
    ·unfold Cx.newOk;refine kH fun q hq=>?_;simp only [zAK,zBI,zBs] at hq;rcases hq with rfl|rfl|rfl|rfl|rfl
     ·kernel_rfl
     ·kernel_rfl
     ·split
      ·rfl
      ·split
       ·rename_i h;cases h
       ·refine zfD ?_;exact valC_of (by simp only [BA,Nat.reduceEqDiff,Nat.reduceAdd,za,zAF,Nat.reduceLT,if_false,jL,hlen,he.e11,l3'];rfl)
     ·split
      ·rfl
      ·split
       ·rename_i h;cases h
       ·refine zfD ?_;exact valC_of (by simp only [BA,Nat.reduceEqDiff,za,Nat.reduceLT,if_false,jL,hlen,he.e11,l3'];rfl)
     ·kernel_rfl
end Go.Proofs.YthohlnmcjkjeiaaGreatDoor
namespace Go.Proofs.YthohlnmcjkjeiaaGreatDoor
set_option maxRecDepth 100000
open Go Go.Vm
variable {gl:Gl}
def nxB (f:A2.F) (_m b:Nat):List (Nat×Nat):=(List.range f.n.2.length).map fun j=>(b+j,(f.n.2[j]?.map zbU).getD 0)
theorem zpC {f:A2.F} {m b:Nat}:yj m b f.n.2.length=(nxB f m b).map fun p=>srV m p.1:=by
 rw [yj,nxB,List.map_map];rfl
structure FOk (f:A2.F) (m n:Nat):Prop where
 mm:m=(f.s.2.length+f.f.2.length) / 8+1
 hs:∀ q∈f.s.2,QOk q
 ns:f.s.2.length<n/\f.s.2.length<2 ^ 30
 nf:f.f.2.length<2 ^ 30
 nl:f.n.2.length=f.s.2.length
 nr:∀ row∈f.n.2,row.2.length<n/\row.2.length<2 ^ 60/\∀ z∈row.2,0<=z/\z.toNat<f.s.2.length+f.f.2.length
 fr:∀ row∈f.f.2,row.2.length<n/\row.2.length<2 ^ 60/\∀ z∈row.2,0<=z/\z.toNat<f.s.2.length+f.f.2.length
theorem zn9 {f:A2.F} {m n:Nat} (h:FOk f m n) {row:A2.Ints} (hr:row∈f.n.2):zbU row<2 ^ (8 * m):=by
 refine zeG (fun z hz=>?_) (Nat.pow_pos (by decide))
 have:=((h.nr row hr).2.2 z hz).2;have:=h.mm;omega
theorem zri {f:A2.F} {m n:Nat} (h:FOk f m n) {bs junk:List Blk}:MM f m (nxB f m (bs.length+2)) (hbN bs f (yj m (bs.length+2) f.n.2.length) (yH (wFF f) 256) (ldL (wFF f) 256) (vJ m f.n.2++junk)) (bs.length+1) where
 mm:=h.mm
 hs:=h.hs
 ns:=h.ns.2
 nf:=h.nf
 nxl:=by rw [nxB,zAU,List.length_range,h.nl]
 M:=by rw [hbN_M,zpC]
 X:=fun p hp=>by
  obtain ⟨j,hj,rfl⟩:=zAo.1 hp;have hj':j<f.n.2.length:=zBi.1 hj;have hrow:f.n.2[j]?=some f.n.2[j]:=zAS hj';have h1:nth (vJ m f.n.2++junk) j=some (.cells (bys m (zbU f.n.2[j])) 5):=by
   rw [zd,zAR (by simp [vJ];exact hj'),vJ,zAY,hrow];rfl
  simp only [hrow,zAa,zAs];exact ⟨hbN_R.trans h1,zn9 h (List.getElem_mem hj')⟩
def BuP (_f:A2.F) (nxt:Nat->Nat->Nat) (s0:Nat) (lab:Nat->Int) (v:V) (B:List Blk):Prop :=
 (∃ i b NB,0<i/\(zj nxt s0 i).length=i/\qc (zj nxt s0 i)<=600/\v=.tup [dnV b NB ((zj nxt s0 i).map lab),.nili]/\RW nxt s0 B b i NB) \/
 (∃ i,600<qc (zj nxt s0 i)/\v=.tup [.agg [.snil,.snil],.ifc 396 (.obj 2)])
theorem zpD {f:A2.F} {m b:Nat}:(nxB f m b).map (·.2)=f.n.2.map zbU:=by
 rw [nxB,List.map_map];apply zBP;intro j;rw [zAY,zAY];rcases zAZ j f.n.2.length with h|h
 ·rw [zBW h,zAS h];simp [zAS h]
 ·rw [zAk (by simpa using h),zAk h];rfl
theorem ag37':qC Tryz.prog 37=some false:=by kernel_rfl
theorem fcl {f:A2.F}:V.laid (A2.fv f)=A2.fc f:=znT f
theorem bld66:∀ env,kV Tryz.prog 66 #[] env=some (.agg [.snil,.snil]):=fun env=>by kernel_rfl
set_option maxHeartbeats 1000000 in
theorem zlX (hg:GS gl) {n m:Nat} {f:A2.F} {act:A2.Ints} {ck rk:Bool} (hn:m+1000<=n) (hm1:m<2 ^ 36) (h24:gl.hk 24 [A2.fv f]=some (.bool ck)) (h72:gl.hk 72 [A2.fv f,A2.iv act]=some (.bool rk)) (hg0:gl.g 0 0=some (.ifc 396 (.obj 0))) (hg2:gl.g 2 0=some (.ifc 396 (.obj 2)))
  (hF:ck=true->rk=true->FOk f m (n - 3)/\(∀ r∈act.2,0<=r/\r.toNat<f.f.2.length)/\act.2.length<n - 3/\act.2.length<2 ^ 60) :
  ∃ v H',zk Tryz.prog gl (n+1+1) 28 [A2.fv f,A2.iv act] ⟨[],[]⟩=some (.ret v,H') /\
   if ck=true/\rk=true then ∃ nx:List (Nat×Nat),nx.map (·.2)=f.n.2.map zbU/\BuP f (nxF f nx m) (z7 f.f.2 act.2 0) (fun w=>vH f.s.2.length (j8 m w) (-1)) v H'.blks else v=.tup [.agg [.snil,.snil],.ifc 396 (.obj 0)]:=by
 suffices hmain:(go ⟨Tryz.prog,gl,zk Tryz.prog gl (n+1),uqS⟩ (n+1) (Fx Tryz.prog Tryz.f28.results.toList fun v H1=>if ck=true/\rk=true then ∃ nx:List (Nat×Nat),nx.map (·.2)=f.n.2.map zbU/\BuP f (nxF f nx m) (z7 f.f.2 act.2 0) (fun w=>vH f.s.2.length (j8 m w) (-1)) v H1.blks else v=.tup [.agg [.snil,.snil],.ifc 396 (.obj 0)]) [.c (Tryz.f28.body.getD .skip)] .normal ⟨[A2.fv f,A2.iv act]++List.replicate 31 (.tup []),⟨[],[]⟩,[],[]⟩) by
  obtain ⟨v,H1,h0,hp⟩:=z0 (gl:=gl) (f:=28) (bs:=[]) (es:=[]) (args:=[A2.fv f,A2.iv act]) (n:=n+1) (hg.hk _ _ (by decide)) (fun H=>hg.hk2 _ _ _ _ (by decide)) Tryz.func28 rfl (by rw [hg.uq];exact hmain)
  refine ⟨v,_,h0,?_⟩;split
  ·rename_i hc;rw [if_pos hc] at hp;obtain ⟨nx,h1,hp⟩:=hp;refine ⟨nx,h1,?_⟩;rcases hp with ⟨i,b,NB,q1,q2,q3,rfl,q5⟩|hp
   ·refine .inl ⟨i,b,NB,q1,q2,q3,rfl,?_⟩;obtain ⟨k,hk⟩:∃ k,k∈NB:=by
     cases NB with
     | nil=>have:=q5.len;simp at this;omega
     | cons k l=>exact ⟨k,zAL ..⟩
    rw [show zL ([]:List Blk).length [] _ H1=⟨H1.blks,H1.edges++[]⟩ from yF (by
     have h1:(rwV b k).top<=tops (NB.map (rwV b)):=zg (zAo.2 ⟨k,hk,rfl⟩);have h2:(clr (zp 1 27 (NB.map (rwV b)))).top=tops (NB.map (rwV b)):=by rw [top_clr,zbX]
     simp only [rwV,V.top] at h1;simp only [dnV,V.top,tops,h2,List.length_nil]
     omega)]
    exact q5
   ·exact .inr hp
  ·rename_i hc;rw [if_neg hc] at hp;exact hp
 have hfk:okC (A2.fv f)=true:=rfl;have hft:∀ env t,qE env t (some (A2.fv f))=some (A2.fv f,env):=fun _ _=>rfl;have hfc:clr (A2.fv f)=A2.fv f:=rfl;have c24:∀ H,Cx.callF ⟨Tryz.prog,gl.g,zk Tryz.prog gl (n+1),uqS⟩ 24 [A2.fv f] H=some (.val (.bool ck),H):=fun H=>zw Tryz.func24 rfl (zis h24)
 have c72:∀ H,Cx.callF ⟨Tryz.prog,gl.g,zk Tryz.prog gl (n+1),uqS⟩ 72 [A2.fv f,A2.iv act] H=some (.val (.bool rk),H):=fun H=>zw Tryz.func72 rfl (zis h72);have lfv:∀ x e,zn Tryz.prog ⟨[.cells (A2.fc f) 30,x],e⟩ gl.g 30 (.ptr 0 0)=some (A2.fv f):=fun x e=>by
  rw [qF,show Hp.get ⟨[.cells (A2.fc f) 30,x],e⟩ 0=some (.cells (A2.fc f) 30) from rfl,qi,jj,ag30',sz30'];simp [xK,A2.fv,A2.fc]
 have lg0:∀ H,zn Tryz.prog H gl.g 37 (.gptr 0 0)=some (.ifc 396 (.obj 0)):=fun H=>by simp [zn,ag37',hg0]
 have lg2:∀ H,zn Tryz.prog H gl.g 37 (.gptr 2 0)=some (.ifc 396 (.obj 2)):=fun H=>by simp [zn,ag37',hg2]
 have hifc:∀ k,clr (V.ifc 396 (.obj k))=.ifc 396 (.obj k):=fun _=>rfl;simp only [Tryz.f28,zAs,zA];refine ze (tk:=[]) (by kernel_rfl) ?_
 simp only [BA,zc,zh,zAQ,zAN,List.replicate,hft,jG hfk,fcl,z66,jI (show okC (V.agg [.snil,.snil])=true from rfl),V.cells];refine ze (tk:=[]) (by kernel_rfl) ?_
 have hst66:∀ B e env,nth B 1=some (.cells [.snil,.snil] 66)->qZ Tryz.prog 66 ⟨B,e⟩ [] [] (some (.agg [.snil,.snil],env)) (some (.ptr 1 0))=some (.skip,⟨env,⟨B,e⟩,[],[]⟩):=fun B e env hB=>by
  have hgk:Hp.get ⟨B,e⟩ 1=some (.cells [.snil,.snil] 66):=hB;rw [zT sz66' hgk rfl rfl (by simp) rfl,v4 (by simp [V.top,tops])]
  show some (OR.skip,St.mk env ⟨B.set 1 (.cells [.snil,.snil] 66),e⟩ [] [])=_;rw [q8 hB]
 have hl66:∀ B e,nth B 1=some (.cells [.snil,.snil] 66)->zn Tryz.prog ⟨B,e⟩ (fun _ _=>none) 66 (.ptr 1 0)=some (.agg [.snil,.snil]):=fun B e hB=>by
  have hgk:Hp.get ⟨B,e⟩ 1=some (.cells [.snil,.snil] 66):=hB;rw [qF,hgk,qi,jj,ag66',sz66'];rfl
 let PE:List V->Hp->Prop:=fun env H=>env.length=33/\nth env 4=some (.ptr 1 0)/\nth H.blks 1=some (.cells [.snil,.snil] 66)/\¬ (ck=true/\rk=true)
 rcases Decidable.em (ck=true/\rk=true) with hck|hck
 rotate_left
 rcases Bool.eq_false_or_eq_true ck with hc1|hc1
 rotate_left
 subst hc1;simp only [BA,zh,zi,zAQ,zAN,yg,qS,wl,wantB_ft,zaL,zAm,lfv,hfc,c24,unA,zAm];refine .inl ?_;refine w9 (P:=PE) ?_ ⟨rfl,rfl,rfl,hck⟩
 rotate_left
 rotate_left
 subst hc1;obtain rfl:rk=false:=by cases rk with
  | false=>rfl
  | true=>exact absurd ⟨rfl,rfl⟩ hck
 simp only [BA,zh,zi,zAQ,zAN,yg,qS,wl,wantB_ff,zaK,zAm,zAg,lfv,hfc,c24,c72,unA,A2.clr_iv,zAm,zAg];refine .inl ?_;refine w9 (P:=PE) ?_ ⟨rfl,rfl,rfl,hck⟩
 rotate_left
 rotate_left
 obtain ⟨rfl,rfl⟩:=hck;simp only [BA,zh,zi,zAQ,zAN,yg,qS,wl,wantB_ff,zaK,zAg,lfv,hfc,c24,c72,unA,A2.clr_iv,zAg];refine .inr ?_;obtain ⟨hfo,hact,hal1,hal2⟩:=hF rfl rfl;obtain ⟨n',rfl⟩:∃ n',n=n'+1:=⟨n - 1,by omega⟩
 obtain ⟨junk,es1,hmk⟩:=zgZ hg (n:=n') (f:=f) (m:=m) (bs:=[.cells (A2.fc f) 30,.cells [.snil,.snil] 66]) (es:=[]) hfo.ns.2 hfo.nf (by rw [hfo.nl];exact hfo.ns.2) hfo.mm (by rw [hfo.nl];have:=hfo.ns.1;omega) (by have:=hfo.ns.1;omega) (by omega) (fun row hrow=>⟨by have:=(hfo.nr row hrow).1;omega,(hfo.nr row hrow).2⟩) hfo.hs
 have hMM:=zri hfo (bs:=[.cells (A2.fc f) 30,.cells [.snil,.snil] 66]) (junk:=junk);obtain ⟨HB,hHB⟩:∃ HB,HB=hbN [.cells (A2.fc f) 30,.cells [.snil,.snil] 66] f (yj m ([Blk.cells (A2.fc f) 30,.cells [.snil,.snil] 66].length+2) f.n.2.length) (yH (wFF f) 256) (ldL (wFF f) 256) (vJ m f.n.2++junk):=⟨_,rfl⟩;have hB1:nth HB 1=some (.cells [.snil,.snil] 66):=by rw [hHB];rfl
 rw [<- hHB] at hMM;have hmk':Cx.callF ⟨Tryz.prog,gl.g,zk Tryz.prog gl (n'+1+1),uqS⟩ 73 [A2.fv f] ⟨[.cells (A2.fc f) 30,.cells [.snil,.snil] 66],[]⟩=some (.val (.ptr 3 0),⟨HB,es1⟩):=by
  rw [hHB];exact zw Tryz.func73 rfl hmk
 have hHBl:2<=HB.length:=by
  rw [zd] at hB1;have:=(zAB.1 hB1).1;omega
 obtain ⟨u,Hb,hb,hpost⟩:=zjD hg (n:=n'+1) (bm:=3) (m:=m) (most:=600) (act:=act) (es:=es1) (by omega) hm1 (zAO _) hMM hact (fun row hrow=>⟨by have:=(hfo.fr row hrow).1;omega,(hfo.fr row hrow).2⟩) (by omega) hal2
 have hb':Cx.callF ⟨Tryz.prog,gl.g,zk Tryz.prog gl (n'+1+1),uqS⟩ 74 [.ptr 3 0,A2.iv act,.int .i64 600] ⟨HB,es1⟩=some (.val u,Hb):=zw Tryz.func74 rfl hb;have hnx2:=zpD (f:=f) (m:=m) (b:=[Blk.cells (A2.fc f) 30,.cells [.snil,.snil] 66].length+2);generalize nxB f m ([Blk.cells (A2.fc f) 30,.cells [.snil,.snil] 66].length+2)=nx at hpost hMM hnx2
 obtain ⟨DL,BL,es2,dv,cn,ok,rfl,rfl,hdv⟩:∃ (DL:List V) (BL:List Blk) (es2:List (Nat×Nat)) (dv:V) (cn:Int) (ok:Bool),u=.tup [dv,.int .i64 cn,.bool ok]/\Hb=⟨HB++BL,es2⟩/\dv=.agg DL/\DL.map clr=DL/\DL.length=2/\(if ok=true then ∃ i NB,0<i/\(zj (nxF f nx m) (z7 f.f.2 act.2 0) i).length=i/\qc (zj (nxF f nx m) (z7 f.f.2 act.2 0) i)<=600/\dv=dnV (HB.length+7) NB ((zj (nxF f nx m) (z7 f.f.2 act.2 0) i).map fun w=>vH f.s.2.length (j8 m w) (-1))/\RW (nxF f nx m) (z7 f.f.2 act.2 0) (HB++BL) (HB.length+7) i NB else ∃ i,600<qc (zj (nxF f nx m) (z7 f.f.2 act.2 0) i)):=by
  rcases hpost with ⟨i,NB,bl,es2,q1,q2,q3,rfl,rfl,q6⟩|⟨i,labs,bl,es2,z,q1,rfl,rfl⟩
  ·exact ⟨_,bl,es2,_,_,true,rfl,rfl,rfl,by simp [x8],rfl,by rw [if_pos rfl];exact ⟨i,NB,q1,q2,by omega,rfl,q6⟩⟩
  ·exact ⟨_,bl,es2,_,_,false,rfl,rfl,rfl,by simp [x8],rfl,by rw [if_neg (by simp)];exact ⟨i,by omega⟩⟩
 obtain ⟨rfl,hDc,hD2,hdv⟩:=hdv;have hDt:∀ env t,qE env t (some (.agg DL))=some (.agg DL,env):=fun _ _=>rfl;refine ze (tk:=[]) (by kernel_rfl) ?_
 simp only [BA,zc,Nat.reduceAdd,zh,zi,zAQ,zAN,lfv,hfc,hmk',A2.clr_iv,hb',vx,clr_tup,z66,jI (show okC (V.agg [.snil,.snil])=true from rfl),V.cells,hDt];obtain ⟨B6,hB6⟩:∃ B6,B6=HB++(BL++[Blk.cells DL 66]):=⟨_,rfl⟩;obtain ⟨e6,he6⟩:∃ e6,e6=kO es2 (HB.length+BL.length) (.agg DL):=⟨_,rfl⟩
 have hstG:∀ env,qZ Tryz.prog 66 ⟨HB++(BL++[Blk.cells [.snil,.snil] 66]),es2⟩ [] [] (some (.agg DL,env)) (some (.ptr (HB.length+BL.length) 0))=some (.skip,⟨env,⟨B6,e6⟩,[],[]⟩):=fun env=>by
  have hgk:Hp.get ⟨HB++(BL++[Blk.cells [.snil,.snil] 66]),es2⟩ (HB.length+BL.length)=some (.cells [.snil,.snil] 66):=by
   show nth _ _=_;rw [<- zAc,<- zAi,zd,zAP (zAO _),zBk];rfl
  rw [zT sz66' hgk rfl (by show (DL.map clr).length=2;rw [hDc,hD2]) (by simp) rfl]
  have h1:(HB++(BL++[Blk.cells [V.snil,.snil] 66])).set (HB.length+BL.length) (.cells DL 66)=B6:=by
   rw [<- zAc,<- zAi,zA5 _ _ (zAO _),zBk,hB6,zAc];rfl
  have h2:Vm.storeCells [V.snil,.snil] 0 DL=DL:=by
   match DL,hD2 with
   | [a,b],_=>rfl
  rw [show V.laid (.agg DL)=DL from hDc,h2];show some (OR.skip,St.mk env (Hp.edge ⟨(HB++(BL++[Blk.cells [V.snil,.snil] 66])).set (HB.length+BL.length) (.cells DL 66),es2⟩ _ _) [] [])=_;rw [h1,edge_eq,he6]
 simp only [hstG,opQ_skip,putA]
 simp only [BA,zh,zi,zAQ,zAN];have hB61:nth B6 1=some (.cells [.snil,.snil] 66):=by
  rw [hB6,zd,zAR (by omega),<- zd,hB1]
 have hl6:zn Tryz.prog ⟨B6,e6⟩ gl.g 66 (.ptr (HB.length+BL.length) 0)=some (.agg DL):=by
  have hgk:Hp.get ⟨B6,e6⟩ (HB.length+BL.length)=some (.cells DL 66):=by
   show nth _ _=_;rw [hB6,<- zAc,<- zAi,zd,zAP (zAO _),zBk];rfl
  rw [qF,hgk,qi,jj,ag66',sz66',xK,if_pos (by omega),zBo,zBN (by omega)]
 refine ze (tk:=[]) (by kernel_rfl) ?_
 cases ok with
 | false =>
  simp only [BA,zh,zi,zAQ,zAN,unA,zAm];refine .inl ?_;rw [if_neg (by simp)] at hdv
  obtain ⟨i9,hdv⟩:=hdv;refine w9 (P:=fun env H=>env.length=33/\nth env 4=some (.ptr 1 0)/\nth H.blks 1=some (.cells [.snil,.snil] 66)) ?_ ⟨rfl,rfl,hB61⟩;rintro env ⟨B,e⟩ lk ⟨hlen,e4,hB⟩;refine yD (tk:=[]) (by kernel_rfl) ?_
  apply Exists.intro;apply And.intro;refine zK (m:=0) (v:=.agg [.snil,.snil]) (by kernel_rfl) rfl (by simp only [BA,bld66];rfl) (by kernel_rfl) (by kernel_rfl) (by kernel_rfl) ?_
  dsimp only [putA]
  refine q7 (m:=0) (v:=.ifc 396 (.obj 2)) (by kernel_rfl) rfl (by simp only [BA,lg2,hifc];rfl) (by kernel_rfl) (by kernel_rfl) (by kernel_rfl) (by kernel_rfl) ?_
  dsimp only [putA]
  refine vF (m:=1) (cs':=[⟨4,⟨B,e⟩,[],[]⟩,⟨0,⟨B,e⟩,[],[]⟩]) (by kernel_rfl) rfl (by simp only [BA,Nat.reduceEqDiff,za,zAF,Nat.reduceLT,if_false,hlen,e4,hst66 _ _ _ hB];rfl) (by kernel_rfl) (by kernel_rfl) (fun K=>?_) ?_
  rotate_left
  dsimp only [putA]
  refine zK (m:=7) (v:=.ifc 396 (.obj 2)) (by kernel_rfl) rfl (by simp only [BA,Nat.reduceEqDiff,za,zAF,Nat.reduceLT,if_false,hlen];rfl) (by kernel_rfl) (by kernel_rfl) (by kernel_rfl) yE
  ·simp only [putA];simp only [go_ret,zx,Fx,zbN]
   refine ⟨trivial,[.agg [.snil,.snil],.ifc 396 (.obj 2)],?_,?_⟩
   ·simp only [zt,za,zAF,hlen,Nat.reduceLT,Nat.reduceEqDiff,if_true,if_false,e4,hl66 _ _ hB,qV]
   ·exact ⟨nx,hnx2,.inr ⟨i9,hdv,rfl⟩⟩
  ·refine jZ ?_ ?_ ?_ ?_
   ·kernel_rfl
   ·rfl
   ·intro c hc;cases hc
   ·unfold Cx.newOk;refine kH fun q hq=>?_;simp only [zAK,zBI,zBs] at hq;rcases hq with rfl|rfl
    ·split
     ·rfl
     ·split
      ·rename_i h;cases h
      ·refine zfD ?_;exact valC_of (by simp only [BA,jL,lg2,hifc];rfl)
    ·kernel_rfl
 | true =>
  simp only [BA,zh,zi,zAQ,zAN,unA,zAg];refine .inr ?_;rw [if_pos rfl] at hdv;obtain ⟨i,NB,q1,q2,q3,q4,q5⟩:=hdv;obtain ⟨e7,he7⟩:∃ e7,e7=kO e6 1 (.agg DL):=⟨_,rfl⟩;have hstH:∀ env,qZ Tryz.prog 66 ⟨B6,e6⟩ [] [] (some (.agg DL,env)) (some (.ptr 1 0))=some (.skip,⟨env,⟨B6.set 1 (.cells DL 66),e7⟩,[],[]⟩):=fun env=>by
   have hgk:Hp.get ⟨B6,e6⟩ 1=some (.cells [.snil,.snil] 66):=hB61;rw [zT sz66' hgk rfl (by show (DL.map clr).length=2;rw [hDc,hD2]) (by simp) rfl]
   have h2:Vm.storeCells [V.snil,.snil] 0 DL=DL:=by
    match DL,hD2 with
    | [a,b],_=>rfl
   rw [show V.laid (.agg DL)=DL from hDc,h2];show some (OR.skip,St.mk env (Hp.edge ⟨B6.set 1 (.cells DL 66),e6⟩ _ _) [] [])=_;rw [edge_eq,he7]
  have hl7:zn Tryz.prog ⟨B6.set 1 (.cells DL 66),e7⟩ (fun _ _=>none) 66 (.ptr 1 0)=some (.agg DL):=by
   have hgk:Hp.get ⟨B6.set 1 (.cells DL 66),e7⟩ 1=some (.cells DL 66):=by
    show nth _ _=_;rw [qN hB61,if_pos rfl]
   rw [qF,hgk,qi,jj,ag66',sz66',xK,if_pos (by omega),zBo,zBN (by omega)]
  refine ze (tk:=[]) (by kernel_rfl) ?_
  simp only [BA,zh,zi,zAQ,zAN,hl6,hDt,hstH];simp only [go_ret,zx,Fx]
  refine ⟨trivial,[.agg DL,.nili],?_,?_⟩
  ·simp only [zt,zh,zi,hl7,qV]
  ·refine ⟨nx,hnx2,.inl ⟨i,HB.length+7,NB,q1,q2,q3,?_,?_⟩⟩
   ·rw [<- q4];rfl
   ·refine q5.mono fun k x hk h=>?_;show nth (B6.set 1 _) _=_;rw [qN hB61,if_neg (by omega),hB6,<- zAc]
    exact nth_app h
 all_goals
  rintro env ⟨B,e⟩ lk ⟨hlen,e4,hB,hck⟩;refine yD (tk:=[]) (by kernel_rfl) ?_
  apply Exists.intro;apply And.intro;refine zK (m:=0) (v:=.agg [.snil,.snil]) (by kernel_rfl) rfl (by simp only [BA,bld66];rfl) (by kernel_rfl) (by kernel_rfl) (by kernel_rfl) ?_
  dsimp only [putA]
  refine q7 (m:=0) (v:=.ifc 396 (.obj 0)) (by kernel_rfl) rfl (by simp only [BA,lg0,hifc];rfl) (by kernel_rfl) (by kernel_rfl) (by kernel_rfl) (by kernel_rfl) ?_
  dsimp only [putA]
  refine vF (m:=1) (cs':=[⟨4,⟨B,e⟩,[],[]⟩,⟨0,⟨B,e⟩,[],[]⟩]) (by kernel_rfl) rfl (by simp only [BA,Nat.reduceEqDiff,za,zAF,Nat.reduceLT,if_false,hlen,e4,hst66 _ _ _ hB];rfl) (by kernel_rfl) (by kernel_rfl) (fun K=>?_) ?_
  rotate_left
  dsimp only [putA]
  refine zK (m:=7) (v:=.ifc 396 (.obj 0)) (by kernel_rfl) rfl (by simp only [BA,Nat.reduceEqDiff,za,zAF,Nat.reduceLT,if_false,hlen];rfl) (by kernel_rfl) (by kernel_rfl) (by kernel_rfl) yE
  ·simp only [putA];simp only [go_ret,zx,Fx,zbN]
   refine ⟨trivial,[.agg [.snil,.snil],.ifc 396 (.obj 0)],?_,?_⟩
   ·simp only [zt,za,zAF,hlen,Nat.reduceLT,Nat.reduceEqDiff,if_true,if_false,e4,hl66 _ _ hB,qV]
   ·split<;>first|rfl|(rename_i h;exact absurd h (by simp))
  ·refine jZ ?_ ?_ ?_ ?_
   ·kernel_rfl
   ·rfl
   ·intro c hc;cases hc
   ·unfold Cx.newOk;refine kH fun q hq=>?_;simp only [zAK,zBI,zBs] at hq;rcases hq with rfl|rfl
    ·split
     ·rfl
     ·split
      ·rename_i h;cases h
      ·refine zfD ?_;exact valC_of (by simp only [BA,jL,lg0,hifc];rfl)
    ·kernel_rfl
end Go.Proofs.YthohlnmcjkjeiaaGreatDoor
