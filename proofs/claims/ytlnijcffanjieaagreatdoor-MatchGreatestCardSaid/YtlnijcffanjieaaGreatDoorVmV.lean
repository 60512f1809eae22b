/- Seat 7: slices.Sorted of slices.Values, as the machine knows it; Seat 7: slices.Sorted, known to the machine where its list lies in a box; Seat 7: rules; what the law's small functions make of them; and what follows from it. Conditions: none but those that each theorem names. -/
import Derived.Test.YtlnijcffanjieaaGreatDoorVmD
import Derived.Test.YtlnijcffanjieaaGreatDoorVmG
import Derived.Test.YtlnijcffanjieaaGreatDoorVmL
import Derived.Test.YtlnijcffanjieaaGreatDoorVmM
import Derived.Test.YtlnijcffanjieaaGreatDoorVmQ
import Derived.Test.YtlnijcffanjieaaGreatDoorVmR
import Derived.Test.YtlnijcffanjieaaGreatDoorVmS
import Derived.Test.YtlnijcffanjieaaGreatDoorVmT
import Derived.Test.YtlnijcffanjieaaGreatDoorVmU
namespace Go.Proofs.YtlnijcffanjieaaGreatDoor
open Go Go.Vm Go.RowKit Go.Maps Go.Sort Go.Shelf
attribute [local go_sem] Oper.semAt_some
theorem zg7 (lb:Array Value) (zs:List Int) (w:World) (C:Addr->Value->Prop) (f:Nat->Value) (hf:∀ j,j<zs.length->f j=.int .i64 (zs.getD j 0)) (hC:∀ ad v,C ad v->ad.block<w.heap.size) (hN:zs.length<=maxLen) (hNb:zs.length * 8<=140737488355328)
  (hseq:zk7 Tryz.prog 73 lb (zaE false false 1 zs.length f) zs.length (KpC C) w) :
  CallsIn Fence.wide 4 Tryz.prog 71 #[.func (.func 73) #[] lb] w fun e w'=>∃ v,e=.returned v/\w'.ownsRow w.heap.size 3 1 v zs.length (zs.map (Value.int .i64))/\(v=.slice none 0 0 ↔ zs=[])/\Below w.heap.size w w':=by
 have hro:Fence.wide.round=none:=rfl;have h1:1<=4:=by decide
 have h100:Fence.wide.fn 100:=trivial;refine callsIn_of_wp Tryz.func71 rfl trivial ?_ hro;simp only [Tryz.ntmps71,zBZ,zAS,List.length_nil,Nat.reduceAdd,Nat.reduceSub,Array.replicate_succ,zBr,List.push_toArray,List.append_toArray,zAT,zAV]
 gi_wp2_with (gi_at_call 100;refine (zeZ rfl lb zs _ C f hf hC hN hNb hseq).mono ?_;rintro e w' ⟨v,rfl,hrow,hnil,hb⟩)
 go_ret
 exact ⟨v,rfl,hrow,hnil,hb⟩
theorem zoW (W:World):Calls Tryz.prog 72 #[.slice none 0 0] W fun e W'=>e=.returned (.tuple #[])/\Below W.heap.size W W':=by
 have hk:HkOk Tryz.prog { g:=fun _ _=>none }:=⟨fun f args v h=>(by cases h),fun n f args H out H' h=>(by cases h),fun _ _ _ _ h=>(by cases h)⟩
 have hc:callA Tryz.prog { g:=fun _ _=>none } 20 72 [.snil] ⟨[],[]⟩=some (.ret (.tup []),⟨[],[]⟩):=by kernel_rfl
 refine Calls.mono (xg mixed numOk primOk hk 20 72 [.snil] ⟨[],[]⟩ _ _ hc (zaF W) W #[.slice none 0 0] .ret ⟨fun k off v h=>(by cases h),fun k U j h=>(by cases h)⟩ (zhM W) ⟨rfl,fun j x v hx hv=>?_,by simp [tops,V.top],fun x hx=>by simp at hx;subst hx;simp⟩) fun e W' he=>?_
 ·match j,hx,hv with
  | 0,hx,hv=>cases hx;cases hv;exact .snil
  | j+1,hx,_=>simp at hx
 ·cases e with
  | returned cv =>
   obtain ⟨v,g',h1,h2,h3,_,_⟩:=he;cases h1;cases h3 with
   | @tup _ arr h4 _ =>
    obtain rfl:arr=#[]:=Array.eq_empty_of_size_eq_zero (by simpa using h4.symm)
    exact ⟨rfl,h2.fr.os,h2.fr.tape,h2.fr.output,h2.fr.size,fun c hcc=>h2.fr.heap c ⟨hcc,fun b hb=>by simp at hb,.inl rfl⟩⟩
  | panicked chain=>obtain ⟨v,cv,g',h1,_⟩:=he;cases h1
  | outgrown=>exact he.elim
def kp (l:List Int):List Int:=l.mergeSort fun x y=>decide (x<=y)
def kj (l:List Int):List V:=l.map (V.int .i64)
theorem ziz (lb:Array Value) (zs:List Int) (w:World) (C:Addr->Value->Prop) (f:Nat->Value) (hf:∀ j,j<zs.length->f j=.int .i64 (zs.getD j 0)) (hC:∀ ad v,C ad v->ad.block<w.heap.size) (hN:zs.length<=maxLen) (hNb:zs.length * 8<=140737488355328)
  (hseq:zk7 Tryz.prog 73 lb (zaE false false 1 zs.length f) zs.length (KpC C) w) :
  CallsIn Fence.wide 5 Tryz.prog 47 #[.func (.func 73) #[] lb] w fun e w'=>∃ v,e=.returned v/\w'.ownsRow w.heap.size 3 1 v zs.length ((kp zs).map (Value.int .i64))/\(v=.slice none 0 0 ↔ zs=[])/\Below w.heap.size w w':=by
 have hro:Fence.wide.round=none:=rfl;have h1:1<=5:=by decide
 have h71:Fence.wide.fn 71:=trivial;have h72:Fence.wide.fn 72:=trivial;refine callsIn_of_wp Tryz.func47 rfl trivial ?_ hro;simp only [Tryz.ntmps47,zBZ,zAS,List.length_nil,Nat.reduceAdd,Nat.reduceSub,Array.replicate_succ,zBr,List.push_toArray,List.append_toArray,zAT,zAV]
 gi_wp2_with (gi_at_call 71;refine (zg7 lb zs _ C f hf hC hN hNb hseq).mono ?_;rintro e W ⟨v,rfl,hrow,hnil,hb⟩)
 rcases hrow.2 with ⟨rfl,hz⟩|⟨gb,cap,cur,rfl,hbase,hgb,r1,r2,r3,r4⟩
 ·have hss:zs=[]:=zBn hz;subst hss
  gi_wp2_with (gi_at_call 72;refine (callsIn_wide.2 (zoW W)).mono ?_;rintro e w' ⟨rfl,hb2⟩)
  go_ret
  exact ⟨.slice none 0 0,rfl,⟨by simp [kp],.inl ⟨rfl,rfl⟩⟩,by simp,hb.trans (hb2.mono hb.size)⟩
 ·have hH:=holds_of_blockI (ss:=zs) hgb (by simpa using r4)
  have hgl:gb<W.heap.size:=(zAZ.1 hgb).1;have hsz:zs.length<4611686018427387904:=by omega
  have cS:Calls Tryz.prog 72 _ _ _:=Any.slices_Sort_int lays189 gb 0 cap zs W hH hgl hsz
  gi_wp2_with (gi_at_call 72;refine (callsIn_wide.2 cS).mono ?_;rintro e w' ⟨rfl,nn,os,rfl⟩)
  go_ret
  exact ⟨_,rfl,ownsRow_sortedI (List.length_mergeSort _) hbase hgb r1 r2 r3,hnil,hb.grown (grownBy_sortedI _) hb.size (fun j hj=>by cases hj;exact hbase)⟩
end Go.Proofs.YtlnijcffanjieaaGreatDoor
namespace Go.Proofs.YtlnijcffanjieaaGreatDoor
open Go Go.Vm
def intsOf:List V->Option (List Int)
 | []=>some []
 | .int .i64 n::r=>(intsOf r).map (n::·)
 | _=>none
theorem intsOf_eq:∀ {cs:List V} {l:List Int},intsOf cs=some l->cs=kj l
 | [],l,h=>by cases h;rfl
 | c::cs,l,h=>by
  unfold intsOf at h;split at h<;>try (cases h;done)
  ·rename_i h0;cases h0
  ·rename_i n r h0;cases h0;cases hr:intsOf cs with
   | none=>rw [hr] at h;cases h
   | some l'=>rw [hr] at h;cases h;rw [intsOf_eq hr];rfl
theorem intsOf_int:∀ l:List Int,intsOf (kj l)=some l
 | []=>rfl
 | a::l=>by
  have:=intsOf_int l;simp only [kj,zAW] at this ⊢;simp [intsOf,this]
def zjz (zs:List Int):V:=if zs.isEmpty then .snil else .sl 1 (kj (kp zs)) .no
def numsOf:V->Option (List Int)
 | .snil=>some []
 | .sl 1 xs .no=>intsOf xs
 | _=>none
def ziA (args:List V) (H:Hp):Option (Out×Hp) :=
 match args with
 | [.fn (.func 73) [] [.ptr b 0]]=>match nth H.blks b with
  | some (.cells [v] 36)=>match numsOf v with
   | some zs=>if zs.length * 8<=140737488355328 then some (.ret (zjz zs),H) else none
   | none=>none
  | _=>none
 | _=>none
variable {d:Nat} {H H':Hp} {g:Gh} {w w':World} {l:Vm.Loc}
theorem ziB {zs:List Int} {v:Value} (hw:Wok g H.blks w) (hb:RowKit.Below w.heap.size w w') (hrow:w'.ownsRow w.heap.size 3 1 v zs.length ((kp zs).map (Value.int .i64))) (hnil:v=.slice none 0 0 ↔ zs=[]) :
  CallPost d H g w l (.ret (zjz zs)) H (.returned v) w':=by
 unfold zjz
 by_cases hz:zs=[]
 ·obtain rfl:=hnil.2 hz;subst hz;exact ⟨.snil,g,rfl,zdo hw hb,.snil,trivial,zAY _⟩
 ·have hE:zs.isEmpty=false:=by cases zs<;>simp_all
  rw [hE];have hrow':=hrow;obtain ⟨hl,⟨h0,_⟩|⟨c,cap,cur,rfl,hbase,hgb,r1,r2,r3,r4⟩⟩:=hrow
  ·exact absurd (hnil.1 h0) hz
  ·have hcell:=hrow'.cellAt;have hA:After d H g w H (Gh.ice w.heap.size g w') w':=zli (dd:=0) hw (zhQ (zdo (d:=0) hw hb).wok)
    ⟨.refl _ _,fun c hc=>hb.block c hc.1,fun _ _=>rfl,fun _ _ _=>rfl,hb.size,fun _ _ _=>rfl,hb.os,hb.tape,hb.output⟩
   have hlen:(kj (kp zs)).length=zs.length:=by simp [kj,kp]
   have hflat:z8 (kj (kp zs))=kj (kp zs):=flat_ones fun j x hx=>by
    obtain ⟨m,_,rfl⟩:=zA1.1 (zI hx);rfl
   have hj:∀ (j:Nat) (x:V),(z8 (kj (kp zs)))[j]?=some x->j<zs.length/\x=.int .i64 ((kp zs).getD j 0):=fun j x hx=>by
    rw [hflat] at hx;have hlt:j<(kj (kp zs)).length:=(zAI.1 hx).1;refine ⟨by omega,?_⟩
    simp only [kj,zAp] at hx;have hlt':j<(kp zs).length:=by simpa [kj] using hlt
    rw [zAX hlt'] at hx;simp only [zAB,zAA] at hx;rw [<- hx];simp [hlt']
   refine ⟨_,_,rfl,hA,?_,trivial,?_⟩
   ·show RelV _ (.sl 1 (kj (kp zs)) .no) _;have hr:RelV (Gh.ice w.heap.size g w') (.sl 1 (kj (kp zs)) .no) (.slice (some ⟨c,0,none⟩) (kj (kp zs)).length cap):=by
     refine .sl (c:=c) (o:=0) (fun j=>.int .i64 ((kp zs).getD j 0)) (fun x hx=>?_) (by omega) (fun _=>rfl) (fun j x hx=>?_) (fun j x hx=>?_) (fun j x hx=>?_)
     ·obtain ⟨m,_,rfl⟩:=zA1.1 hx;rfl
     ·rw [(hj j x hx).2];rfl
     ·have h1:=(hj j x hx).1;have h2:=hcell j (by simpa using h1)
      simp only [Gh.ice,show ¬ c<w.heap.size by omega,if_false,zAU]
      rw [h2];have:j<(kp zs).length:=by simpa [kp] using h1
      simp [this]
     ·rw [(hj j x hx).2];exact .int _ _
    rwa [hlen] at hr
   ·have:tops (kj (kp zs))=0:=Nat.le_zero.1 (jc fun x hx=>by
     obtain ⟨n,_,rfl⟩:=zA1.1 hx
     exact zAQ _)
    simp [V.top,this]
theorem zoX {k:IntKind} {n:Int} {cv:Value} (h:RelV g (.int k n) cv):cv=.int k n:=by cases h;rfl
theorem znL {args:List V} {out:Out} (hc:ziA args H=some (out,H')) {cargs:Array Value} (hw:Wok g H.blks w) (ha:ArgsOk g H.blks.length args cargs):Calls Tryz.prog 47 cargs w (CallPost d H g w l out H'):=by
 unfold ziA at hc;split at hc<;>try (cases hc;done)
 rename_i b;split at hc<;>try (cases hc;done)
 rename_i v hb;split at hc<;>try (cases hc;done)
 rename_i zs hzs;split at hc<;>try (cases hc;done)
 rename_i hbig;simp only [zAA,zAJ] at hc;obtain ⟨rfl,rfl⟩:=hc;have hsz:cargs.size=1:=ha.len.symm
 obtain ⟨cv,rfl⟩:∃ cv,cargs=#[cv]:=⟨cargs[0],by
  apply Array.ext (by simp [hsz])
  intro i h1 h2;simp at h2
  subst h2;rfl⟩
 have hrel:=ha.rel 0 _ cv rfl rfl;cases hrel with
 | @fn _ _ _ fa fc e1 e2 e3 e4 =>
 obtain rfl:fa=#[]:=Array.eq_empty_of_size_eq_zero (by simpa using e1.symm)
 have hfc:fc.size=1:=by simpa using e2.symm
 obtain ⟨pv,rfl⟩:∃ pv,fc=#[pv]:=⟨fc[0],by
  apply Array.ext (by simp [hfc])
  intro i h1 h2;simp at h2
  subst h2;rfl⟩
 have hp:=e4 0 _ pv rfl rfl;cases hp;have hbk:H.blks[b]?=some (.cells [v] 36):=by rw [<- zw];exact hb
 obtain ⟨arr,ha1,ha2,ha3⟩:=hw.ok b _ hbk;have hbox:g.blk b<w.heap.size:=(zAZ.1 ha1).1
 obtain ⟨av,rfl⟩:∃ av,arr=#[av]:=⟨arr[0]'(by rw [<- ha2];exact Nat.one_pos),by
  apply Array.ext (by simpa using ha2.symm)
  intro i h1 h2;simp at h2
  subst h2;rfl⟩
 have hav:=(ha3 0 v av rfl rfl).2.1;have hcellb:w.cell? ⟨g.blk b,0,none⟩=some av:=by simp [World.cell?,ha1]
 have key:∀ (a:Option Addr) (cap c o:Nat) (f:Nat->Value),av=.slice a zs.length cap->(0<zs.length->c<w.heap.size)->(0<zs.length->a=some ⟨c,o,none⟩)->(∀ j,j<zs.length->w.cell? ⟨c,o+j,none⟩=some (f j))->(∀ j,j<zs.length->f j=.int .i64 (zs.getD j 0)) ->
   Calls Tryz.prog 47 #[.func (.func 73) #[] #[.pointer (some ⟨g.blk b,0,none⟩)]] w (CallPost d H g w l (.ret (zjz zs)) H):=by
  intro a cap c o f h1 h2 h3 h4 h5;have hit:=vals_spec.2 3 1 false u36 s3 a3 (by decide) w (g.blk b) a zs.length cap c o f (fun ad _=>ad.block<w.heap.size) hbox h2 (h1 ▸ hcellb) h3 (fun j hj=>h4 j (by omega)) hbox (fun j hj=>h2 (by omega)) (by omega)
  have hml:zs.length<=maxLen:=zAP (show zs.length<=140737488355328 by omega) (by decide)
  refine (callsIn_wide.1 (ziz _ zs w (fun ad _=>ad.block<w.heap.size) f h5 (fun ad v h=>h) hml hbig hit)).mono fun e w' he=>?_;obtain ⟨v,rfl,hr,hn,hbl⟩:=he;exact ziB hw hbl hr hn
 unfold numsOf at hzs;split at hzs<;>try (cases hzs;done)
 ·cases hzs;cases hav;exact key none 0 0 0 (fun _=>.int .i64 0) rfl (fun h=>by simp at h) (fun h=>by simp at h) (fun j hj=>by simp at hj) (fun j hj=>by simp at hj)
 ·rename_i xs;obtain rfl:=intsOf_eq hzs;have hflat:z8 (kj zs)=kj zs:=flat_ones fun j x hx=>by
   obtain ⟨m,_,rfl⟩:=zA1.1 (zI hx);rfl
  cases hav with
  | @sl _ _ _ a cap c o f k1 k2 k3 k4 k5 k6 =>
  rw [hflat] at k4 k5 k6;have hlen:(kj zs).length=zs.length:=by simp [kj]
  have hx:∀ j,j<zs.length->(kj zs)[j]?=some (.int .i64 (zs.getD j 0)):=fun j hj=>by simp [kj,hj]
  refine key a cap c o f (by rw [hlen]) (fun h0=>?_) (fun h0=>k3 fun e=>by rw [e] at hlen;simp at hlen;omega) (fun j hj=>hw.mem _ _ _ (k5 j _ (hx j hj))) (fun j hj=>?_)
  ·exact zaf (hw.mem _ _ _ (k5 0 _ (hx 0 h0)))
  ·exact zoX (k6 j _ (hx j hj))
end Go.Proofs.YtlnijcffanjieaaGreatDoor
namespace Go.Proofs.YtlnijcffanjieaaGreatDoor
set_option maxRecDepth 10000
open Go Go.Vm Go.Vm.Sx
structure Co where
 hd:E
 ht:Bool
 tl:E
def qt (c:Co):List V:=ecells c.hd++(.bool c.ht::ecells c.tl)
def wk (c:Co):V:=.agg (qt c)
def jA (nl:Bool) (l:List Co):V:=lv 21 nl (l.map wk)
def qV (nl:Bool) (l:List Int):V:=lv 1 nl (kj l)
theorem znM (l:List Int):tops (kj l)=0:=Nat.le_zero.1 (jc fun x hx=>by
 obtain ⟨n,_,rfl⟩:=zA1.1 hx
 exact zAQ _)
theorem ziC (c:Co):tops (qt c)=0:=by
 simp [qt,wK,ziw,tops,V.top]
theorem zcE (c:Co):(wk c).top=0:=ziC c
theorem tops_cor:∀ l:List Co,tops (l.map wk)=0
 | []=>rfl
 | a::l=>by simp only [zAW,tops];rw [tops_cor l,zcE];rfl
theorem ze0 (nl:Bool) (l:List Co):(jA nl l).top=0:=by unfold jA;rw [zeF];exact tops_cor l
theorem ziD (nl:Bool) (l:List Int):(qV nl l).top=0:=by unfold qV;rw [zeF];exact znM l
theorem zf0 (nl:Bool) (l:List Co):kOk (.sl 21) (jA nl l)=true:=znh ..
theorem yu (nl:Bool) (l:List Co):vL (jA nl l)=l.map wk:=zig ..
theorem kh (nl:Bool) (l:List Co):clr (jA nl l)=jA nl l:=clr_lv ..
theorem ze1 (nl:Bool) (l:List Int):kOk (.sl 1) (qV nl l)=true:=znh ..
theorem jX (nl:Bool) (l:List Int):vL (qV nl l)=kj l:=zig ..
theorem jl (nl:Bool) (l:List Int):clr (qV nl l)=qV nl l:=clr_lv ..
theorem vD (l:List Int):(kj l).length=l.length:=by simp [kj]
theorem zg8 {l:List Co} {i:Nat} {c:Co} (h:l[i]?=some c):nth (l.map wk) i=some (wk c):=by rw [zw,zAp,h];rfl
theorem zcF {l:List Int} {i:Nat} {n:Int} (h:l[i]?=some n):nth (kj l) i=some (.int .i64 n):=by rw [zw,kj,zAp,h];rfl
variable {gl:Gl} [NoU gl]
theorem lent22:wi Tryz.prog Tryz.f22.params.toList=some []:=by kernel_rfl
theorem lent49:wi Tryz.prog Tryz.f49.params.toList=some []:=by kernel_rfl
theorem lent70:wi Tryz.prog Tryz.f70.params.toList=some []:=by kernel_rfl
theorem zrj {x:V}:vy Tryz.prog [52] [.d x] 0:=by
 refine ⟨fun e=>?_,trivial⟩;rw [Tryz.underlying52];simp
theorem zrk {x:V}:vy Tryz.prog [89] [.d x] 0:=by
 refine ⟨fun e=>?_,trivial⟩;rw [Tryz.underlying89];simp
def zeroM:E->Bool
 | .mk op pl s0 s1 s2 s3 tx mn mx _nl args=>op == 0 && pl == 0 && (s0 == 0 && (s1 == 0 && (s2 == 0 && s3 == 0))) && eqL tx [] && mn == 0 && mx == 0 && decide (args.length=0)
theorem zr1 (hgl:GL gl) (h70:∀ args,gl.hk 70 args=none):∀ (e:E),Ev Tryz.prog gl 70 [.d (enc e)] [] (.bool (zeroM e)) []
 | .mk op pl s0 s1 s2 s3 text mn mx nl args=>by
  refine kx (xs:=[enc (.mk op pl s0 s1 s2 s3 text mn mx nl args)]) hgl.top h70 tree70_ok Tryz.func70 lent70 zoN (by simp [tops,top_enc]) (N:=1) ?_
  have hl:((args.length:Int) == 0)=decide (args.length=0):=by
   cases args with
   | nil=>rfl
   | cons a l=>exact (beq_false_of_ne (by simp;omega)).trans (by simp)
  simp only [tree70,enc,zeroM];simp only [zZ,qf,ev_opn,qF,qO,qg,ki,yD,ks_nil,zAd,qG,zC,zJ,evB,evI,evS,evL,zA,evC,zH,jP,zY,zng,ko,cmS,yq,yr,encs_length,hl]
def qY (c:Co):E:=if c.ht then zjw [c.hd,c.tl] else c.hd
theorem zr2 (hgl:GL gl) (h49:∀ args,gl.hk 49 args=none):∀ (c:Co),Ev Tryz.prog gl 49 [.d (wk c)] [] (enc (qY c)) []
 | ⟨.mk op pl s0 s1 s2 s3 text mn mx nl args,ht,.mk op' pl' s0' s1' s2' s3' text' mn' mx' nl' args'⟩=>by
  refine kx (xs:=[wk _]) hgl.top h49 tree49_ok Tryz.func49 lent49 zrk (by simp [tops,zcE]) (N:=1) ?_
  cases ht<;>simp only [tree49,wk,qt,ecells,zAV,zAT,qY,if_true,zAD,if_false,zjw,enc]
  ·simp only [jV,zZ,qf,ev_opn,qF,qO,qg,ki,yD,kL,ks_nil,zAd,zAy,qG,zC,zJ,evB,zA,evC,zH,jP,jF,zq,qN,yq,jN]
  ·simp only [ky,zZ,qf,ev_opn,qF,qO,qg,ki,yD,kL,ks_nil,zAd,zAo,qG,zC,zJ,evB,evI,evS,evL,zA,evC,zH,jP,jF,zq,qN,yq,jN];rfl
def smS (n:Int) (c:Co):Int:=IntKind.i64.wrap (IntKind.i64.wrap (n+sizeM c.hd 0)+sizeM c.tl 0)
def zg9 (l:List Co):Bool:=lez (l.foldl smS 0) 1200
theorem zr3 (hgl:GL gl) (h22:∀ args,gl.hk 22 args=none) (nl:Bool) (l:List Co) (hl:l.length<=maxLen) (hw:∀ c∈l,Wf c.hd/\Wf c.tl):Ev Tryz.prog gl 22 [.d (jA nl l)] [] (.bool (zg9 l)) []:=by
 have hml:=maxLen_le;refine kx (xs:=[jA nl l]) hgl.top h22 tree22_ok Tryz.func22 lent22 zrj (by simp [tops,ze0]) (N:=l.length+1) ?_
 simp only [tree22];simp only [qj,vV,qF,evI,zA,evC,zf0];refine xY (st:=fun i=>[.int .i64 ((l.take i).foldl smS 0),.int .i64 (i:Int)]) (m:=l.length) (fun i hi=>?_) ?_ (by omega)
 ·obtain ⟨c,hc⟩:∃ c,l[i]?=some c:=⟨l[i],by simp [hi]⟩
  have h1:=zdv hi;have h2:=zg8 hc;have h4:=zir (i:=i) (by omega)
  obtain ⟨hw1,hw2⟩:=hw c (zAg hc);have ht:(l.take (i+1)).foldl smS 0=smS ((l.take i).foldl smS 0) c:=by
   rw [List.take_add_one,hc,List.foldl_append];rfl
  rw [ht];have d1:=wI (zp9 hgl c.hd hw1 0);have d2:=wI (zp9 hgl c.tl hw2 0);simp only [smS];obtain ⟨⟨op,pl,s0,s1,s2,s3,text,mn,mx,nl',args⟩,ht,⟨op',pl',s0',s1',s2',s3',text',mn',mx',nl'',args'⟩⟩:=c;simp only [enc] at d1 d2;simp only [wk,qt,ecells,zAV,zAT] at h2;simp only [lp22_1]
  simp only [jV,zZ,jR,ev_opn,qj,qA,qF,qO,qg,ki,yD,kL,ks_nil,zAd,qG,wL,zC,zJ,evB,evI,evL,zA,evC,zH,kG,evA,qp,zY,qS,biI,wF,joinL,sizesOk,yu,h1,h2,h4,d1,d2,yq,zAj,zAs]
 ·have h1:=zfR (zAQ l.length);simp only [lp22_1,zBd,zg9];simp only [ky,zZ,ev_esc,qf,qF,qO,zC,zJ,evB,evI,evL,zA,evC,zH,jP,zY,qS,za1,yu,h1,zAj]
end Go.Proofs.YtlnijcffanjieaaGreatDoor
namespace Go.Proofs.YtlnijcffanjieaaGreatDoor
set_option maxRecDepth 100000
open Go Go.Vm
def GdC (c:Co):Prop:=(GdE c.hd/\Rg c.hd)/\(GdE c.tl/\Rg c.tl)
def zdF (c:Co):Prop:=Can c.hd/\Can c.tl
theorem zjA {c c':Co} (h:zdF c) (h':zdF c') (he:qt c=qt c'):c=c':=by
 obtain ⟨hd,ht,tl⟩:=c;obtain ⟨hd',ht',tl'⟩:=c';simp only [qt] at he;obtain ⟨e1,e2⟩:=List.append_inj he (by rw [qB,qB])
 simp only [zAw,V.bool.injEq] at e2;have h1:=enc_inj hd hd' h.1 h'.1 (by rw [qJ,qJ,e1])
 have h2:=enc_inj tl tl' h.2 h'.2 (by rw [qJ,qJ,e2.2])
 rw [h1,h2,e2.1]
theorem ziE {c c':Co} (h:zdF c) (h':zdF c') (he:wk c=wk c'):c=c':=zjA h h' (V.agg.inj he)
def zqn (c:Co):List V:=[wk c]
theorem i70:∀ a b,Can a->Can b->zjx a=zjx b->V.bool (zeroM a)=V.bool (zeroM b):=fun a b ha hb h=>by
 rw [enc_inj a b ha hb (List.cons.inj h).1]
theorem i49:∀ a b,zdF a->zdF b->zqn a=zqn b->enc (qY a)=enc (qY b):=fun a b ha hb h=>by
 rw [ziE ha hb (List.cons.inj h).1]
noncomputable def glM:Gl :=
 {g:=glw
  hk:=fun f args=>if Nat.beq f 11 then hkX zjx GdE (fun e=>.bool (vC e)) args else if Nat.beq f 70 then hkX zjx Can (fun e=>.bool (zeroM e)) args else if Nat.beq f 49 then hkX zqn zdF (fun c=>enc (qY c)) args else none
  hk2:=fun n f args H=>if Nat.beq f 47 then ziA args H else if Nat.beq f 44 || Nat.beq f 45 then callA Tryz.prog glb (n+1) f args H else none }
theorem ze2 {d d':Nat} (h:d<=d') {H H':Hp} {g g':Gh} {w w':World} (ha:After d H g w H' g' w'):After d' H g w H' g' w' :=
 {ha with fr:=ha.fr.mono h }
theorem hkM:HkOk Tryz.prog glM:=by
 refine ⟨fun f args v h d H g w cargs lc h1 h2 h3=>?_,fun n f args H out H' h d hd g w cargs lc h1 h2 h3=>?_,fun _ _ _ _ h=>(by cases h)⟩
 ·simp only [glM] at h;split at h
  ·rename_i hf;obtain rfl:f=11:=zAO hf;obtain ⟨e,hg,rfl,rfl⟩:=wy h;obtain ⟨k,hk⟩:=Sx.Ev.run (xs:=[enc e]) (zri GL0 e hg.1) ⟨[],[]⟩;exact wP mixed numOk primOk hk0 (hk k (zAQ _)) (by simp [tops,top_enc]) rfl h1 h2 h3
  ·split at h
   ·rename_i hf;obtain rfl:f=70:=zAO hf;obtain ⟨e,hg,rfl,rfl⟩:=wy h;obtain ⟨k,hk⟩:=Sx.Ev.run (xs:=[enc e]) (zr1 GL0 (fun _=>rfl) e) ⟨[],[]⟩;exact wP mixed numOk primOk hk0 (hk k (zAQ _)) (by simp [tops,top_enc]) rfl h1 h2 h3
   ·split at h
    ·rename_i hf;obtain rfl:f=49:=zAO hf;obtain ⟨c,hg,rfl,rfl⟩:=wy h;obtain ⟨k,hk⟩:=Sx.Ev.run (xs:=[wk c]) (zr2 GL0 (fun _=>rfl) c) ⟨[],[]⟩;exact wP mixed numOk primOk hk0 (hk k (zAQ _)) (by simp [tops,zcE]) (top_enc _) h1 h2 h3
    ·cases h
 ·simp only [glM] at h;split at h
  ·rename_i hf;obtain rfl:f=47:=zAO hf;exact znL h h2 h3
  ·split at h
   ·refine Calls.mono (xg mixed numOk primOk hkb (n+1) f args H out H' h g w cargs lc h1 h2 h3) fun e w' he=>?_;cases e with
    | returned cv =>
     obtain ⟨v,g',e1,e2,e3⟩:=he;exact ⟨v,g',e1,ze2 hd e2,e3⟩
    | panicked chain =>
     obtain ⟨v,cv,g',e1,e2,e3,e4⟩:=he;exact ⟨v,cv,g',e1,e2,ze2 hd e3,e4⟩
    | outgrown=>exact he.elim
   ·cases h
theorem zqo {e:E} (h:GdE e):glM.hk 11 [enc e]=some (.bool (vC e)):=zav (a:=e) i11 h
theorem zqp {e:E} (h:Can e):glM.hk 70 [enc e]=some (.bool (zeroM e)):=zav (a:=e) i70 h
theorem zqq {c:Co} (h:zdF c):glM.hk 49 [wk c]=some (enc (qY c)):=zav (a:=c) i49 h
theorem zcG {f:FuncId} (h:([11,49,70].any (Nat.beq f))=false) (args:List V):glM.hk f args=none:=by
 simp only [List.any_cons,List.any_nil,zBb,zBV] at h;simp only [glM,h.1,h.2.1,h.2.2,zAD,if_false]
theorem zbT {f:FuncId} (h:([44,45,47].any (Nat.beq f))=false) (n:Nat) (args:List V) (H:Hp):glM.hk2 n f args H=none:=by
 simp only [List.any_cons,List.any_nil,zBb,zBV] at h;simp only [glM,h.1,h.2.1,h.2.2,zBb,zAD,if_false]
theorem zoY {n:Nat} {f:FuncId} (hf:f=44\/f=45) {args:List V} {H:Hp} {r:Out×Hp} (h:callA Tryz.prog glb (n+1) f args H=some r):callA Tryz.prog glM (n+1) f args H=some r:=by
 obtain ⟨bs,es⟩:=H;have h1:glM.hk f args=none:=zcG (by rcases hf with rfl|rfl<;>rfl) args
 have h2:glM.hk2 n f args ⟨bs,es⟩=some r:=by rcases hf with rfl|rfl<;>exact h
 rw [callA.eq_def];simp only [h1,h2]
theorem zr4 {n:Nat} {args:List V} {H:Hp} {r:Out×Hp} (h:ziA args H=some r):callA Tryz.prog glM (n+1) 47 args H=some r:=by
 obtain ⟨bs,es⟩:=H;have h1:glM.hk 47 args=none:=zcG rfl args;have h2:glM.hk2 n 47 args ⟨bs,es⟩=some r:=h;rw [callA.eq_def];simp only [h1,h2]
def zjB (cx:Cx) (H:Hp) (lk:List (Nat×Nat)) (df:List (V×List V)) (env:List V):Option V->Option (List V)->Option (OR×St)
 | some fv,some l=>qo lk df env (cx.callV (clr fv) l H)
 | _,_=>none
theorem ziF {cx:Cx} {H:Hp} {lk:List (Nat×Nat)} {df:List (V×List V)} {env:List V} {fv:V} {l:List V}:zjB cx H lk df env (some fv) (some l)=qo lk df env (cx.callV (clr fv) l H):=rfl
theorem znN {cx:Cx} {takes:List Tmp} {dst:Option Tmp} {type:TypeId} {pos:String} {after:Array Edge} {guard:Option (Nat×Bool)} {env:List V} {H:Hp} {lk:List (Nat×Nat)} {df:List (V×List V)} {t:Tmp} {args:Array Operand} {ts:Array TypeId} :
  cx.op takes ⟨dst,.call ⟨.value (.tmp t),args,ts⟩,type,pos,after,guard⟩ env H lk df=zjB cx H lk df env (nth env t) (peeks env args.toList):=by
 simp only [Cx.op,peek];cases nth env t with
 | none=>rfl
 | some fv=>cases peeks env args.toList with
  | none=>rfl
  | some l=>simp only [zjB,qo];cases cx.callV (clr fv) l H with
   | none=>rfl
   | some q=>obtain ⟨a,b⟩:=q;rfl
theorem ag52:km Tryz.prog 52=some false:=by kernel_rfl
theorem ag3':km Tryz.prog 3=some false:=by kernel_rfl
theorem ag89:km Tryz.prog 89=some true:=by kernel_rfl
theorem sz89:qx Tryz.prog 89=some 21:=by kernel_rfl
theorem zkP {H:Hp} {nl:Bool} {l:List Co}:wa Tryz.prog H 52 (jA nl l)=some (l.length:Int):=by
 rcases Sx.lv_cases 21 nl (l.map wk) with h|⟨h0,h⟩<;>rw [jA,h]
 ·simp [wa]
 ·have:l=[]:=by simpa using h0
  subst this;simp [wa]
theorem zdy {H:Hp} {nl:Bool} {l:List Int}:wa Tryz.prog H 36 (qV nl l)=some (l.length:Int):=by
 rcases Sx.lv_cases 1 nl (kj l) with h|⟨h0,h⟩<;>rw [qV,h]
 ·simp [wa,kj]
 ·have:l=[]:=by simpa [kj] using h0
  subst this;simp [wa]
theorem zf1 {nl:Bool} {l:List Int} {k:Nat} {r:Int} (h:l[k]?=some r):qh Tryz.prog 36 (qV nl l) (k:Int)=some (.vp [.int .i64 r]):=by
 have hk:¬ ((k:Int)<0):=by omega
 have hn:nth (kj l) k=some (.int .i64 r):=zcF h;rcases Sx.lv_cases 1 nl (kj l) with h'|⟨h0,_⟩
 ·rw [qV,h'];simp [qh,s3,hk,hn,V.cells]
 ·rw [h0] at hn;simp [nth] at hn
theorem znO {nl:Bool} {l:List Co} {k:Nat} {c:Co} (h:l[k]?=some c):qh Tryz.prog 52 (jA nl l) (k:Int)=some (.vp (qt c)):=by
 have hk:¬ ((k:Int)<0):=by omega
 have hn:nth (l.map wk) k=some (wk c):=zg8 h;rcases Sx.lv_cases 21 nl (l.map wk) with h'|⟨h0,_⟩
 ·rw [jA,h'];simp [qh,sz89,hk,hn,wk,V.cells]
 ·rw [h0] at hn;simp [nth] at hn
theorem zf2 {H:Hp} {g:Nat->Nat->Option V} {v:V}:zM Tryz.prog H g 3 (.vp [v])=some v:=by simp [zM,wJ,ag3',nth,zce]
theorem vR (c:Co):(qt c).length=21:=by simp [qt,qB]
theorem zjC {H:Hp} {g:Nat->Nat->Option V} {c:Co}:zM Tryz.prog H g 89 (.vp (qt c))=some (wk c):=by
 have:(qt c).take 21=qt c:=zBC (by rw [vR];decide)
 simp [zM,wJ,ag89,sz89,zce,vR,this,wk]
theorem zrl {H:Hp} {g:Nat->Nat->Option V} {b:Nat} {v:V} (h:H.get b=some (.cells [v] 52)):zM Tryz.prog H g 52 (.ptr b 0)=some v:=qc ag52 h rfl
def y9 (l:List Co) (r:Int):Bool:=decide (r<0) || decide ((l.length:Int)<=r)
theorem e69 {n:Nat} {bs:List Blk} {es:List (Nat×Nat)} {b:Nat} {nl:Bool} {l:List Co} {r:Int} (hb:nth bs b=some (.cells [jA nl l] 52)) :
  callA Tryz.prog glM (n+1) 69 [.int .i64 r,.ptr b 0] ⟨bs,es⟩=some (.ret (.bool (y9 l r)),⟨bs,es⟩):=by
 refine qT (zcG rfl _) (fun H=>zbT rfl _ _ _) Tryz.func69 rfl ?_;simp only [Tryz.f69,ze];refine zc (tk:=[]) (by kernel_rfl) ?_
 simp only [zl,go_os_nil,ze,zd,zo,ofVal,zf,opQ_val,zr,zAB,zAS,List.length_nil,zAU,Nat.reduceAdd,zAV,zAT,zAG,zAH,List.replicate,Nat.reduceSub]
 have hld:∀ g,zM Tryz.prog ⟨bs,[]⟩ g 52 (.ptr b 0)=some (jA nl l):=fun g=>zrl hb;refine zc (tk:=[]) (by kernel_rfl) ?_
 cases h:decide (r<0) with
 | true =>
  simp only [zl,go_os_nil,zj,zn,zv,zS,zd,qq,peek,zh,ofVal,zt,zb,zf,opQ_val,zr,zq,zk,zu,zAC,zAB,z6,zi,zp,zAG,zAH,jb,zQ,qm,wantB_ft,wG,wA,h]
  simp only [go_ret,zB,Vm.Fin]
  exact ⟨trivial,[.bool true],rfl,by simp [y9,h,tupOf],(zT rfl (zAY _)).symm⟩
 | false =>
  simp only [zl,go_os_nil,zj,zn,zv,zS,zd,qq,peek,zh,ofVal,zt,zb,zf,opQ_val,zr,zq,zk,zu,zAC,zAB,z7,zi,zp,zAG,zAH,jb,zQ,qm,wantB_ff,wx,wA,h,hld,kh,zkP,zj1]
  simp only [go_ret,zB,Vm.Fin]
  exact ⟨trivial,[.bool _],rfl,by simp [y9,h,tupOf],(zT rfl (zAY _)).symm⟩
def zfm (b:Nat):V:=.fn (.func 69) [] [.ptr b 0]
theorem v69 {n:Nat} {bs:List Blk} {es:List (Nat×Nat)} {b:Nat} {nl:Bool} {l:List Co} {r:Int} (hb:nth bs b=some (.cells [jA nl l] 52)) (hn:1<=n) :
  Cx.callV ⟨Tryz.prog,glM.g,callA Tryz.prog glM n,glM.uq⟩ (zfm b) [.int .i64 r] ⟨bs,es⟩=some (.val (.bool (y9 l r)),⟨bs,es⟩):=by
 simp only [Cx.callV,zfm,fL_eq,zAT,zAV,zAW,zAi,zq,zu];obtain ⟨m,rfl⟩:∃ m,n=m+1:=⟨n - 1,by omega⟩
 exact qb Tryz.func69 rfl (e69 hb)
end Go.Proofs.YtlnijcffanjieaaGreatDoor
namespace Go.Proofs.YtlnijcffanjieaaGreatDoor
set_option maxRecDepth 100000
open Go Go.Vm
theorem ziG (b:Nat):clr (zfm b)=zfm b:=rfl
theorem e99 {n:Nat} {bs:List Blk} {es:List (Nat×Nat)} {b:Nat} {nl al:Bool} {l:List Co} {a:List Int} (hb:nth bs b=some (.cells [jA nl l] 52)) (hn:a.length<n) (ha:a.length<2 ^ 60) :
  ∃ i:Int,callA Tryz.prog glM (n+1) 99 [qV al a,zfm b] ⟨bs,es⟩=some (.ret (.int .i64 i),⟨bs,es⟩)/\(0<=i ↔ a.any (y9 l)=true):=by
 suffices hmain:go ⟨Tryz.prog,glM.g,callA Tryz.prog glM n,glM.uq⟩ n (Fx Tryz.prog Tryz.f99.results.toList fun u H1=>H1=⟨bs,[]⟩/\∃ i:Int,u=.int .i64 i/\(0<=i ↔ a.any (y9 l)=true)) [.c (Tryz.f99.body.getD .skip)] .normal ⟨[qV al a,zfm b]++List.replicate 17 (.tup []),⟨bs,[]⟩,[],[]⟩ by
  obtain ⟨u,H1,h1,rfl,i,rfl,h2⟩:=kM (gl:=glM) (f:=99) (bs:=bs) (es:=es) (args:=[qV al a,zfm b]) (n:=n) (zcG rfl _) (fun H=>zbT rfl _ _ _) Tryz.func99 rfl hmain;exact ⟨i,by rw [h1];exact congrArg some (congrArg (Prod.mk _) (zT rfl (zAY _))),h2⟩
 simp only [Tryz.f99,zA2,ze];refine zc (tk:=[]) (by kernel_rfl) ?_
 simp only [zl,go_os_nil,ze,zd,zo,ofVal,zf,opQ_val,zr,zAB,zAV,zAT,zAG,zAH,List.replicate]
 refine zc (tk:=[]) (by kernel_rfl) ?_
 simp only [zl,go_os_nil,zO,zj,qq,peek,ofVal,zb,opQ_val,zr,zAC,zAB,zi,zp,zAG,zAH,jl,zdy]
 refine yF (fun m s=>∃ k env,m+k=a.length/\s=⟨env,⟨bs,[]⟩,[],[]⟩/\env.length=19/\nth env 0=some (qV al a)/\nth env 1=some (zfm b)/\nth env 7=some (.int .i64 a.length)/\nth env 8=some (.int .i64 (k:Nat))/\(a.take k).any (y9 l)=false) a.length hn ⟨0,_,rfl,rfl,rfl,rfl,rfl,rfl,rfl,rfl⟩ ?_;rintro m s ⟨k,env,hmk,rfl,hel,e0,e1,e7,e8,hA⟩;simp only [ze];refine zc (tk:=[]) (by kernel_rfl) ?_
 simp only [zl,go_os_nil,ze,go_skip,zO,zv,peek,zb,opQ_val,zr,zq,zk,zD,zK,if_true,za,Nat.reduceLT,if_true,e7,e8,hel,wA]
 by_cases hk:k<a.length
 ·refine .inl ⟨by simp;omega,?_⟩
  obtain ⟨r,hr⟩:∃ r,a[k]?=some r:=⟨a[k],by simp [hk]⟩
  have hv:=v69 (n:=n) (es:=[]) (r:=r) hb (by omega)
  have htk:a.take (k+1)=a.take k++[r]:=by rw [List.take_add_one,hr];rfl
  try simp only [go_skip,ze,zO]
  refine zc (tk:=[]) (by kernel_rfl) ?_
  simp only [zl,go_os_nil,ze,zj,zd,Nat.reduceEqDiff,peek,zh,qn,zb,zf,opQ_val,zr,zq,if_true,za,zAR,Nat.reduceLT,if_true,if_false,e8,hel]
  refine zc (tk:=[]) (by kernel_rfl) ?_
  simp only [zl,go_os_nil,ze,go_skip,qW,zj,zn,zG,Nat.reduceEqDiff,peeks,zN,peek,zb,opQ_val,zr,zq,zk,jd,zAC,zAB,jz,qo,zD,zK,if_true,za,zAR,Nat.reduceLT,if_true,if_false,e0,e1,hel,jl,ziG,jz,zf1 hr,zf2,znN,ziF,hv]
  cases hof:y9 l r with
  | false =>
   simp only [zAD,zBB,zBl,zAa];refine zc (tk:=[]) (by kernel_rfl) ?_
   simp only [zl,go_os_nil,zj,zv,Nat.reduceEqDiff,peek,ofVal,zb,opQ_val,zr,zq,if_true,za,zAR,Nat.reduceLT,if_true,if_false,e8,hel,jL (show k<2 ^ 60 by omega),zB,thn_normal]
   refine ⟨m - 1,by omega,k+1,_,by omega,rfl,?_,?_,?_,?_,?_,?_⟩
   ·simp [hel]
   ·simp [za,e0]
   ·simp [za,e1]
   ·simp [za,e7]
   ·simp [za,hel]
   ·rw [htk,List.any_append,hA];simp [hof]
  | true =>
   simp only [zAa,zA3,zBB,zBx];refine zc (tk:=[]) (by kernel_rfl) ?_
   simp only [zl,go_os_nil,zj,zd,Nat.reduceEqDiff,peek,zh,qn,zb,zf,opQ_val,zr,zq,if_true,za,zAR,Nat.reduceLT,if_true,if_false,hel]
   simp only [go_ret,zB,qH,j8,thn,Fx]
   refine ⟨trivial,[.int .i64 (k:Nat)],?_,trivial,_,rfl,?_⟩
   ·simp [zU,za,hel]
   ·refine iff_of_true (by omega) (List.any_eq_true.2 ⟨r,zAg hr,hof⟩)
 ·refine .inr ⟨by simp;omega,?_⟩
  obtain rfl:k=a.length:=by omega
  rw [zBd] at hA;simp only [yE,wC,kW,zB,thn_exit,ze,zBO,if_true,zB];refine zc (tk:=[]) (by kernel_rfl) ?_
  simp only [zl,go_os_nil,zd,zo,ofVal,zf,opQ_val,zr,zAB]
  simp only [go_ret,zB,Fx]
  refine ⟨trivial,[.int .i64 (-1)],?_,trivial,_,rfl,?_⟩
  ·simp [zU,za,hel]
  ·rw [hA];simp
theorem e68 {n:Nat} {bs:List Blk} {es:List (Nat×Nat)} {b:Nat} {nl al:Bool} {l:List Co} {a:List Int} (hb:nth bs b=some (.cells [jA nl l] 52)) (hn:a.length+1<n) (ha:a.length<2 ^ 60) :
  callA Tryz.prog glM (n+1) 68 [qV al a,zfm b] ⟨bs,es⟩=some (.ret (.bool (a.any (y9 l))),⟨bs,es⟩):=by
 refine qT (zcG rfl _) (fun H=>zbT rfl _ _ _) Tryz.func68 rfl ?_;obtain ⟨i,h99,hi⟩:=e99 (n:=n - 1) (es:=[]) (al:=al) hb (by omega) ha
 rw [show n - 1+1=n by omega] at h99
 have c99:=qb (gl:=glM.g) (uq:=glM.uq) Tryz.func99 rfl h99;have hgi:decide (i ≥ 0)=a.any (y9 l):=by
  cases h:a.any (y9 l) with
  | true=>exact decide_eq_true (hi.2 h)
  | false=>exact decide_eq_false fun h0=>by rw [hi.1 h0] at h;cases h
 simp only [Tryz.f68,ze];refine zc (tk:=[]) (by kernel_rfl) ?_
 simp only [zl,go_os_nil,ze,zd,zo,ofVal,zf,opQ_val,zr,zAB,zAS,List.length_nil,zAU,Nat.reduceAdd,zAV,zAT,zAG,zAH,List.replicate,Nat.reduceSub]
 refine zc (tk:=[]) (by kernel_rfl) ?_
 simp only [zl,go_os_nil,zj,zv,zd,zV,peeks,zN,peek,zh,ofVal,zt,zb,zf,opQ_val,zr,zq,zF,qo,zAW,zAi,zi,zp,zAG,zAH,jl,ziG,c99,zj1,hgi]
 simp only [go_ret,zB,Vm.Fin]
 exact ⟨trivial,[.bool _],rfl,rfl,(zT rfl (zAY _)).symm⟩
def zda (b:Nat):V:=.fn (.func 73) [] [.ptr b 0]
theorem zdb {env:List V} {t:Nat} {nl:Bool} {l:List Int}:kb env t (some (qV nl l))=some (qV nl l,env):=by
 rcases Sx.lv_cases 1 nl (kj l) with h|⟨h0,h⟩<;>rw [qV,h]<;>rfl
theorem zlR {env:List V} {t:Nat} {nl:Bool} {l:List Co}:kb env t (some (jA nl l))=some (jA nl l,env):=by
 rcases Sx.lv_cases 21 nl (l.map wk) with h|⟨h0,h⟩<;>rw [jA,h]<;>rfl
theorem zoZ (nl:Bool) (l:List Int):okC (qV nl l)=true/\(qV nl l).laid=[qV nl l]:=by
 rcases Sx.lv_cases 1 nl (kj l) with h|⟨h0,h⟩<;>rw [qV,h]<;>exact ⟨rfl,rfl⟩
theorem zo0 (nl:Bool) (l:List Co):okC (jA nl l)=true/\(jA nl l).laid=[jA nl l]:=by
 rcases Sx.lv_cases 21 nl (l.map wk) with h|⟨h0,h⟩<;>rw [jA,h]<;>exact ⟨rfl,rfl⟩
theorem e48 {n:Nat} {bs:List Blk} {es:List (Nat×Nat)} {nl:Bool} {l:List Int} :
  callA Tryz.prog glM (n+1) 48 [qV nl l] ⟨bs,es⟩=some (.ret (zda bs.length),⟨bs++[.cells [qV nl l] 36],es⟩):=by
 suffices hmain:go ⟨Tryz.prog,glM.g,callA Tryz.prog glM n,glM.uq⟩ n (Fx Tryz.prog Tryz.f48.results.toList fun v H1=>v=zda bs.length/\H1=⟨bs++[.cells [qV nl l] 36],[]⟩) [.c (Tryz.f48.body.getD .skip)] .normal ⟨[qV nl l]++List.replicate 3 (.tup []),⟨bs,[]⟩,[],[]⟩ by
  obtain ⟨v,H1,h1,rfl,rfl⟩:=kM (gl:=glM) (f:=48) (bs:=bs) (es:=es) (args:=[qV nl l]) (n:=n) (zcG rfl _) (fun H=>zbT rfl _ _ _) Tryz.func48 rfl hmain;rw [h1];have:(zda bs.length).top=bs.length+1:=by simp [zda,V.top,tops]
  rw [this];simp only [jr];rw [if_neg]
  ·rfl
  ·simp only [zAF,not_and];intro hb;have:=zAn hb;omega
 have hbx:=zoZ nl l;simp only [Tryz.f48,zA2,ze];refine zc (tk:=[]) (by kernel_rfl) ?_
 simp only [zl,go_os_nil,ze,q5,zd,zh,zo,ofVal,zf,opQ_val,zr,zAB,qd,zAV,zAT,zi,zAG,zAH,List.replicate,zdb,jf hbx.1,hbx.2]
 have htf:∀ env t b,kb env t (some (V.fn (.func 73) [] [.ptr b 0]))=some (.fn (.func 73) [] [.ptr b 0],env):=fun _ _ _=>rfl;refine zc (tk:=[]) (by kernel_rfl) ?_
 simp only [zl,go_os_nil,zd,peek,zh,zb,zf,opQ_val,zr,zu,zAB,zi,zp,zAG,zAH,zju,htf]
 simp only [go_ret,zB,Fx]
 exact ⟨trivial,[zda bs.length],rfl,rfl,trivial⟩
theorem s47 {n:Nat} {bs:List Blk} {es:List (Nat×Nat)} {b:Nat} {nl:Bool} {l:List Int} (hb:nth bs b=some (.cells [qV nl l] 36)) (hl:l.length * 8<=140737488355328) :
  callA Tryz.prog glM (n+1) 47 [zda b] ⟨bs,es⟩=some (.ret (zjz l),⟨bs,es⟩):=by
 refine zr4 ?_;have hnum:numsOf (qV nl l)=some l:=by
  rcases Sx.lv_cases 1 nl (kj l) with h|⟨h0,h⟩<;>rw [qV,h]
  ·exact intsOf_int l
  ·have:l=[]:=by simpa [kj] using h0
   subst this;rfl
 simp only [ziA,zda,hb,hnum,hl,if_true]
end Go.Proofs.YtlnijcffanjieaaGreatDoor
namespace Go.Proofs.YtlnijcffanjieaaGreatDoor
set_option maxRecDepth 100000
open Go Go.Vm
theorem fo89_0:qR Tryz.prog 89 0=some 0:=by kernel_rfl
theorem fo89_1:qR Tryz.prog 89 1=some 10:=by kernel_rfl
theorem fo89_2:qR Tryz.prog 89 2=some 11:=by kernel_rfl
theorem zjD (c:Co):(qt c).map clr=qt c:=by simp [qt,y7,clr]
theorem z89:∃ z,jp Tryz.prog 89=some z/\okC z=true/\z.cells.length=21/\z.cells.all (fun c=>!(locked c))=true:=by
 refine ⟨_,(show jp Tryz.prog 89=some (wk ⟨.mk 0 0 0 0 0 0 [] 0 0 true [],false,.mk 0 0 0 0 0 0 [] 0 0 true []⟩) by kernel_rfl),rfl,rfl,rfl⟩
theorem alc89:∃ cs,(cs.length=21/\cs.all (fun c=>!(locked c))=true)/\∀ {env:List V} {H:Hp} {lk:List (Nat×Nat)} {df:List (V×List V)},zii 89 env H lk df (jp Tryz.prog 89)=some (.val (.ptr H.blks.length 0),⟨env,H.push (.cells cs 89),lk,df⟩):=by
 obtain ⟨z,h1,h2,h3,h4⟩:=z89;exact ⟨z.cells,⟨h3,h4⟩,by rw [h1];exact zbo h2⟩
theorem zrm {bs:List Blk} {es:List (Nat×Nat)} {cs:List V} {c:Co} {env:List V} {lk:List (Nat×Nat)} {df:List (V×List V)} (h1:cs.length=21) (h2:cs.all (fun c=>!(locked c))=true):jY Tryz.prog 89 ⟨bs++[.cells cs 89],es⟩ lk df (some (wk c,env)) (some (.ptr bs.length 0))=some (.skip,⟨env,⟨bs++[.cells (qt c) 89],es⟩,lk,df⟩):=by
 have hl:(wk c).laid=qt c:=zjD c;rw [wD sz89 (H:=⟨bs++[Blk.cells cs 89],es⟩) (b:=bs.length) (off:=0) (cs:=cs) (ty:=89) Vm.get_at0 rfl (by rw [hl,vR]) (by omega) (za4 h2 (by omega)),vK (zcE c),hl,zkz (by rw [vR,h1]),zbr]
theorem zlS {env:List V} {t:Nat} {c:Co}:kb env t (some (wk c))=some (wk c,env):=rfl
theorem ze3 (c:Co):clr (wk c)=wk c:=rfl
theorem zrn {bs:List Blk} {es:List (Nat×Nat)} {g:Nat->Nat->Option V} {c:Co}:zM Tryz.prog ⟨bs++[.cells (qt c) 89],es⟩ g 27 (.ptr bs.length 0)=some (enc c.hd):=by
 rw [yi (H:=⟨bs++[Blk.cells (qt c) 89],es⟩) (b:=bs.length) (off:=0) (cs:=qt c) (ty:=89) ag27 sz27 Vm.get_at0 (by rw [vR];decide),qJ]
 simp only [zBg,qt];rw [zBU (by rw [qB];decide),zBC (by rw [qB];decide)]
theorem zkQ {bs:List Blk} {es:List (Nat×Nat)} {g:Nat->Nat->Option V} {c:Co}:zM Tryz.prog ⟨bs++[.cells (qt c) 89],es⟩ g 4 (.ptr bs.length 10)=some (.bool c.ht):=by
 refine qc (H:=⟨bs++[Blk.cells (qt c) 89],es⟩) (b:=bs.length) (off:=10) (cs:=qt c) (ty:=89) ag4 Vm.get_at0 ?_;rw [zw,qt,zAh (by rw [qB];decide),qB];rfl
theorem znP {bs:List Blk} {es:List (Nat×Nat)} {g:Nat->Nat->Option V} {c:Co}:zM Tryz.prog ⟨bs++[.cells (qt c) 89],es⟩ g 27 (.ptr bs.length 11)=some (enc c.tl):=by
 rw [yi (H:=⟨bs++[Blk.cells (qt c) 89],es⟩) (b:=bs.length) (off:=11) (cs:=qt c) (ty:=89) ag27 sz27 Vm.get_at0 (by rw [vR];decide),qJ]
 have:(qt c).drop 11=ecells c.tl:=by
  rw [qt,List.drop_append,qB,zBj (by rw [qB];decide)];rfl
 rw [this,zBC (by rw [qB];decide)]
theorem c11 {n:Nat} (hn:1<=n) {e:E} (h:GdE e) (H:Hp):Cx.callF ⟨Tryz.prog,glM.g,callA Tryz.prog glM n,glM.uq⟩ 11 [enc e] H=some (.val (.bool (vC e)),H):=by
 obtain ⟨m,rfl⟩:∃ m,n=m+1:=⟨n - 1,by omega⟩
 exact qb Tryz.func11 rfl (y6 (zqo h))
theorem c70 {n:Nat} (hn:1<=n) {e:E} (h:Can e) (H:Hp):Cx.callF ⟨Tryz.prog,glM.g,callA Tryz.prog glM n,glM.uq⟩ 70 [enc e] H=some (.val (.bool (zeroM e)),H):=by
 obtain ⟨m,rfl⟩:∃ m,n=m+1:=⟨n - 1,by omega⟩
 exact qb Tryz.func70 rfl (y6 (zqp h))
def zab (c:Co):Bool:=vC c.hd && (if c.ht then vC c.tl else zeroM c.tl)
def xc (l:List Co) (a:List Int) (t:Nat):Bool:=decide (t<=65536) && decide (l.length<=200) && !(a.any (y9 l)) && l.all zab
theorem e46 {n:Nat} {nl al tl:Bool} {l:List Co} {a:List Int} {t:List Nat} (hn:a.length+l.length+2<n) (ha:a.length<2 ^ 60) (hl:l.length<2 ^ 60) (hc:∀ c∈l,GdC c) :
  callA Tryz.prog glM (n+1) 46 [jA nl l,qV al a,qP tl t] ⟨[],[]⟩=some (.ret (.bool (xc l a t.length)),⟨[],[]⟩):=by
 suffices hmain:go ⟨Tryz.prog,glM.g,callA Tryz.prog glM n,glM.uq⟩ n (Fx Tryz.prog Tryz.f46.results.toList fun u H1=>u=.bool (xc l a t.length)/\H1.edges=[]) [.c (Tryz.f46.body.getD .skip)] .normal ⟨[jA nl l,qV al a,qP tl t]++List.replicate 51 (.tup []),⟨[],[]⟩,[],[]⟩ by
  obtain ⟨u,⟨bs,es⟩,h1,rfl,rfl⟩:=kM (gl:=glM) (f:=46) (bs:=[]) (es:=[]) (args:=[jA nl l,qV al a,qP tl t]) (n:=n) (zcG rfl _) (fun H=>zbT rfl _ _ _) Tryz.func46 rfl hmain;rw [h1];have:=ja (bs:=[]) (ls:=bs) (es:=[]) (t:=0) (zAQ _);rw [zAT] at this;exact congrArg some (congrArg (Prod.mk _) this)
 have hbx:=zo0 nl l;simp only [Tryz.f46,zA2,ze];refine zc (tk:=[]) (by kernel_rfl) ?_
 simp only [zl,go_os_nil,ze,q5,zd,zh,zo,ofVal,zf,opQ_val,zr,zAB,qd,List.length_nil,zAV,zAT,zi,zAG,zAH,List.replicate,zlR,jf hbx.1,hbx.2]
 have hld:∀ g,zM Tryz.prog ⟨[.cells [jA nl l] 52],[]⟩ g 52 (.ptr 0 0)=some (jA nl l):=fun g=>zrl rfl;have h68:=e68 (n:=n - 1) (es:=[]) (al:=al) (a:=a) (bs:=[.cells [jA nl l] 52]) (b:=0) rfl (by omega) ha
 rw [show n - 1+1=n by omega] at h68
 have c68:=qb (gl:=glM.g) (uq:=glM.uq) Tryz.func68 rfl h68;simp only [zfm] at c68;refine zc (tk:=[]) (by kernel_rfl) ?_
 by_cases h1:(t.length:Int) > 65536
 ·have d1:decide ((t.length:Int) > 65536)=true:=decide_eq_true h1;have h1':¬ t.length<=65536:=by omega
  simp only [zl,go_os_nil,ze,go_skip,zj,zn,zv,zS,qq,zV,peeks,zN,peek,ofVal,zb,opQ_val,zr,zq,zk,zu,zAC,zAB,zF,qo,zAW,zAi,zAa,zD,zK,z6,zi,zp,zAG,zAH,jb,zQ,qm,wantB_ft,wG,qI,za7,wQ,d1]
  refine .inl ?_;refine zc (tk:=[]) (by kernel_rfl) ?_
  simp only [zl,go_os_nil,zd,zo,ofVal,zf,opQ_val,zr,zAB,zAG,zAH]
  simp only [go_ret,zB,qH,Fx]
  exact ⟨trivial,[.bool false],rfl,by simp [xc,tupOf,h1'],trivial⟩
 have d1:decide ((t.length:Int) > 65536)=false:=decide_eq_false h1
 by_cases h2:(l.length:Int) > 200
 ·have d2:decide ((l.length:Int) > 200)=true:=decide_eq_true h2;have h2':¬ l.length<=200:=by omega
  simp only [zl,go_os_nil,ze,go_skip,zj,zn,zv,zS,qq,zV,peeks,zN,peek,ofVal,zb,opQ_val,zr,zq,zk,zu,zAC,zAB,zF,qo,zAW,zAi,zAa,zD,zK,z6,z7,zi,zp,zAG,zAH,jb,zQ,qm,wantB_ft,wantB_ff,wx,wG,qI,za7,wQ,d1,d2,hld,kh,zkP]
  refine .inl ?_;refine zc (tk:=[]) (by kernel_rfl) ?_
  simp only [zl,go_os_nil,zd,zo,ofVal,zf,opQ_val,zr,zAB,zAG,zAH]
  simp only [go_ret,zB,qH,Fx]
  exact ⟨trivial,[.bool false],rfl,by simp [xc,tupOf,h2'],trivial⟩
 have d2:decide ((l.length:Int) > 200)=false:=decide_eq_false h2;simp only [zl,go_os_nil,ze,go_skip,zj,zn,zv,zS,qq,zV,peeks,zN,peek,ofVal,zb,opQ_val,zr,zq,zk,zu,zAC,zAB,zF,qo,zAW,zAi,zD,zK,z7,zi,zp,zAG,zAH,jb,zQ,qm,wantB_ff,wx,qI,za7,wQ,d1,d2,hld,kh,zkP,jl,zju,zpO,c68]
 have h1':t.length<=65536:=by omega
 have h2':l.length<=200:=by omega
 cases hany:a.any (y9 l) with
 | true =>
  refine .inl ⟨rfl,?_⟩;refine zc (tk:=[]) (by kernel_rfl) ?_
  simp only [zl,go_os_nil,zd,zo,ofVal,zf,opQ_val,zr,zAB,zAG,zAH]
  simp only [go_ret,zB,qH,Fx]
  exact ⟨trivial,[.bool false],rfl,by simp [xc,tupOf,hany],trivial⟩
 | false =>
 refine .inr ⟨rfl,?_⟩
 try simp only [go_skip]
 refine zc (tk:=[]) (by kernel_rfl) ?_
 simp only [zl,go_os_nil,zO,zj,zn,qq,peek,ofVal,zb,opQ_val,zr,zu,zAC,zAB,zi,zp,zAG,zAH,hld,kh,zkP]
 obtain ⟨cz,⟨hz1,hz2⟩,hz3⟩:=alc89;refine yF (fun m s=>∃ k env B,m+k=l.length/\s=⟨env,⟨B,[]⟩,[],[]⟩/\env.length=54/\nth env 22=some (jA nl l)/\nth env 23=some (.int .i64 l.length)/\nth env 24=some (.int .i64 (k:Nat))/\(l.take k).all zab=true) l.length (by omega) ⟨0,_,_,rfl,rfl,rfl,rfl,rfl,rfl,rfl⟩ ?_
 rintro m s ⟨k,env,B,hmk,rfl,hel,e22,e23,e24,hA⟩;simp only [ze];refine zc (tk:=[]) (by kernel_rfl) ?_
 simp only [zl,go_os_nil,ze,go_skip,zO,zv,peek,zb,opQ_val,zr,zq,zk,zD,zK,if_true,za,Nat.reduceLT,if_true,e23,e24,hel,wA]
 by_cases hk:k<l.length
 ·refine .inl ⟨by simp;omega,?_⟩
  obtain ⟨c,hck⟩:∃ c,l[k]?=some c:=⟨l[k],by simp [hk]⟩
  obtain ⟨⟨g1,_⟩,g2,_⟩:=hc c (zAg hck);have htk:l.take (k+1)=l.take k++[c]:=by rw [List.take_add_one,hck];rfl
  have x11:=c11 (n:=n) (by omega) g1 ⟨B++[.cells (qt c) 89],[]⟩
  have y11:=c11 (n:=n) (by omega) g2 ⟨B++[.cells (qt c) 89],[]⟩
  have y70:=c70 (n:=n) (by omega) g2.2 ⟨B++[.cells (qt c) 89],[]⟩
  have hbad:zab c=false->xc l a t.length=false:=fun h=>by
   have:l.all zab=false:=by
    cases h':l.all zab with
    | false=>rfl
    | true=>rw [zA8.1 h' c (zAg hck)] at h;cases h
   simp [xc,this]
  have hN:∀ env',env'.length=54->nth env' 22=some (jA nl l)->nth env' 23=some (.int .i64 l.length)->nth env' 24=some (.int .i64 ((k+1:Nat):Int))->zab c=true ->
    ∃ i,i<m/\∃ k env B',i+k=l.length/\(⟨env',⟨B++[.cells (qt c) 89],[]⟩,[],[]⟩:St)=⟨env,⟨B',[]⟩,[],[]⟩/\env.length=54/\nth env 22=some (jA nl l)/\nth env 23=some (.int .i64 l.length)/\nth env 24=some (.int .i64 (k:Nat))/\(l.take k).all zab=true :=
   fun env' f0 f1 f2 f3 f4=>⟨m - 1,by omega,k+1,env',_,by omega,rfl,f0,f1,f2,f3,by rw [htk,List.all_append,hA];simp [f4]⟩
  try simp only [go_skip,ze,zO]
  refine zc (tk:=[]) (by kernel_rfl) ?_
  simp only [zl,go_os_nil,ze,zn,qa,zE,zG,Nat.reduceEqDiff,peek,zh,zb,opQ_val,opQ_skip,zr,zq,zu,jd,zAC,zAB,jz,qd,if_true,za,zAR,Nat.reduceLT,if_true,if_false,e22,e24,hel,kh,jz,znO hck,zjC,ze3,hz3,zlS,zrm hz1 hz2]
  refine zgW (fun s=>∃ env,s=⟨env,⟨B++[.cells (qt c) 89],[]⟩,[],[]⟩/\env.length=54/\nth env 22=some (jA nl l)/\nth env 23=some (.int .i64 l.length)/\nth env 24=some (.int .i64 (k:Nat))/\nth env 52=some (.bool (!zab c))) ?_ ?_
  ·refine zc (tk:=[]) (by kernel_rfl) ?_
   refine go_env (fun env=>env.length=54/\nth env 22=some (jA nl l)/\nth env 23=some (.int .i64 l.length)/\nth env 24=some (.int .i64 (k:Nat))/\nth env 8=some (.ptr B.length 0)) ⟨by simp [hel],by simp [za,e22],by simp [za,e23],by simp [za,e24],by simp [za,hel]⟩ ?_
   clear hel e22 e23 e24 env;rintro env ⟨hel,e22,e23,e24,e8⟩;refine ziq 5 (fun s=>∃ env,s=⟨env,⟨B++[.cells (qt c) 89],[]⟩,[],[]⟩/\env.length=54/\nth env 22=some (jA nl l)/\nth env 23=some (.int .i64 l.length)/\nth env 24=some (.int .i64 (k:Nat))/\nth env 8=some (.ptr B.length 0)/\nth env 32=some (.bool (!vC c.hd))) ?_ ?_
   ·simp only [List.take_succ_cons,List.take_zero];simp only [zl,go_os_nil,zj,zn,qM,zg,zV,Nat.reduceEqDiff,peeks,zN,peek,zb,opQ_val,zr,zk,zu,zAC,zAB,zm,zP,zF,qo,zAW,zAi,zAk,if_true,za,zAR,Nat.reduceLT,if_true,if_false,e8,hel,fo89_0,zrn,vz,x11,unA,zB,zgX]
    exact ⟨_,rfl,by simp [hel],by simp [za,e22],by simp [za,e23],by simp [za,e24],by simp [za,e8],by simp [za,hel]⟩
   clear hel e22 e23 e24 e8 env;rintro s ⟨env,rfl,hel,e22,e23,e24,e8,e32⟩;simp only [List.drop_succ_cons,zBg];refine ziq 9 (fun s=>∃ env,s=⟨env,⟨B++[.cells (qt c) 89],[]⟩,[],[]⟩/\env.length=54/\nth env 22=some (jA nl l)/\nth env 23=some (.int .i64 l.length)/\nth env 24=some (.int .i64 (k:Nat))/\nth env 8=some (.ptr B.length 0)/\nth env 41=some (.bool (!(vC c.hd) || (c.ht && !(vC c.tl))))) ?_ ?_
   ·simp only [List.take_succ_cons,List.take_zero];cases hhd:vC c.hd with
    | false =>
     rw [hhd] at e32;simp only [zl,go_os_nil,zj,zn,qM,zS,zg,zV,Nat.reduceEqDiff,peeks,zN,peek,ofVal,zb,opQ_val,zr,zk,zu,zAC,zAB,zF,qo,zAW,zAi,if_true,z6,za,zAR,Nat.reduceLT,if_true,if_false,zi,zp,jb,zQ,qm,wantB_ft,wG,zAy,e8,e32,hel,zB,zgX]
     exact ⟨_,rfl,by simp [hel],by simp [za,e22],by simp [za,e23],by simp [za,e24],by simp [za,e8],by simp [za,hel]⟩
    | true =>
    rw [hhd] at e32;cases hht:c.ht with
    | true =>
     simp only [zl,go_os_nil,zj,zn,qM,zS,zg,zV,Nat.reduceEqDiff,peeks,zN,peek,ofVal,zb,opQ_val,zr,zk,zu,zAC,zAB,zm,zP,zF,qo,zAW,zAi,zAU,if_true,z6,z7,za,zAR,Nat.reduceLT,if_true,if_false,zi,zp,jb,zQ,qm,wantB_tt,wantB_ff,wx,zAo,e8,e32,hel,fo89_1,fo89_2,zkQ,znP,vz,hht,y11,unA,zB,zgX]
     exact ⟨_,rfl,by simp [hel],by simp [za,e22],by simp [za,e23],by simp [za,e24],by simp [za,e8],by simp [za,hel]⟩
    | false =>
     simp only [zl,go_os_nil,zj,zn,qM,zS,zg,zV,Nat.reduceEqDiff,peeks,zN,peek,ofVal,zb,opQ_val,zr,zk,zu,zAC,zAB,zm,zP,zF,qo,zAW,zAi,zAU,if_true,z7,za,zAR,Nat.reduceLT,if_true,if_false,zi,zp,jb,zQ,qm,wantB_tf,wantB_ff,wx,wG,zAo,e8,e32,hel,fo89_1,fo89_2,zkQ,znP,vz,hht,unA,zB,zgX]
     exact ⟨_,rfl,by simp [hel],by simp [za,e22],by simp [za,e23],by simp [za,e24],by simp [za,e8],by simp [za,hel]⟩
   clear hel e22 e23 e24 e8 e32 env;rintro s ⟨env,rfl,hel,e22,e23,e24,e8,e41⟩;simp only [List.drop_succ_cons,zBg];cases hb:(!(vC c.hd) || (c.ht && !(vC c.tl))) with
   | true =>
    have hok:zab c=false:=by revert hb;simp only [zab];cases vC c.hd<;>cases c.ht<;>cases vC c.tl<;>simp
    rw [hb] at e41;simp only [zl,go_os_nil,zj,zn,qM,zS,zg,zV,Nat.reduceEqDiff,peeks,zN,peek,ofVal,zb,opQ_val,zr,zk,zu,zAC,zAB,zF,qo,zAW,zAi,if_true,z6,za,zAR,Nat.reduceLT,if_true,if_false,zi,zp,jb,zQ,qm,wantB_ft,wG,zAy,e8,e41,hel,zB,xG,hok]
    exact ⟨_,rfl,by simp [hel],by simp [za,e22],by simp [za,e23],by simp [za,e24],by simp [za,hel]⟩
   | false =>
   rw [hb] at e41;cases hht:c.ht with
   | true =>
    have hok:zab c=true:=by revert hb;simp only [zab,hht];cases vC c.hd<;>cases vC c.tl<;>simp
    simp only [zl,go_os_nil,zj,zn,qM,zS,zg,zV,Nat.reduceEqDiff,peeks,zN,peek,ofVal,zb,opQ_val,zr,zk,zu,zAC,zAB,zm,zP,zF,qo,zAW,zAi,zAU,if_true,z7,za,zAR,Nat.reduceLT,if_true,if_false,zi,zp,jb,zQ,qm,wantB_tf,wantB_ff,wx,wG,zAo,e8,e41,hel,fo89_1,zkQ,hht,unA,zB,xG,hok]
    exact ⟨_,rfl,by simp [hel],by simp [za,e22],by simp [za,e23],by simp [za,e24],by simp [za,hel]⟩
   | false =>
    have hok:zab c=zeroM c.tl:=by revert hb;simp only [zab,hht];cases vC c.hd<;>simp
    simp only [zl,go_os_nil,zj,zn,qM,zS,zg,zV,Nat.reduceEqDiff,peeks,zN,peek,ofVal,zb,opQ_val,zr,zk,zu,zAC,zAB,zm,zP,zF,qo,zAW,zAi,zAU,if_true,z6,z7,za,zAR,Nat.reduceLT,if_true,if_false,zi,zp,jb,zQ,qm,wantB_tt,wantB_ff,wx,zAy,e8,e41,hel,fo89_1,fo89_2,zkQ,znP,vz,y70,hht,unA,zB,xG,hok]
    exact ⟨_,rfl,by simp [hel],by simp [za,e22],by simp [za,e23],by simp [za,e24],by simp [za,hel]⟩
  ·rintro s ⟨env,rfl,hel,e22,e23,e24,e52⟩;cases hok:zab c with
   | false =>
    rw [hok] at e52;simp only [ze,go_skip,qW,peek,zk,zD,zK,e52]
    refine .inl ⟨rfl,?_⟩
    try simp only [ze]
    refine zc (tk:=[]) (by kernel_rfl) ?_
    simp only [zl,go_os_nil,zd,zo,ofVal,zf,opQ_val,zr,zAB]
    simp only [go_ret,zB,qH,j8,thn,Fx]
    refine ⟨trivial,[.bool false],?_,?_,trivial⟩
    ·simp [zU,za,hel]
    ·simp [hbad hok,tupOf]
   | true =>
    rw [hok] at e52;simp only [ze,go_skip,qW,peek,zk,zD,zK,e52]
    refine .inr ⟨rfl,?_⟩
    try simp only [go_skip,qW]
    refine zc (tk:=[]) (by kernel_rfl) ?_
    simp only [zl,go_os_nil,zj,zv,peek,ofVal,zb,opQ_val,zr,zq,if_true,za,Nat.reduceLT,if_true,e24,hel,jL (show k<2 ^ 60 by omega),zB,thn_normal]
    refine hN _ ?_ ?_ ?_ ?_ hok
    ·simp [hel]
    ·simp [za,e22]
    ·simp [za,e23]
    ·simp [za,hel]
 ·refine .inr ⟨by simp;omega,?_⟩
  obtain rfl:k=l.length:=by omega
  rw [zBd] at hA;simp only [yE,wC,kW,zB,thn_exit,ze,zBO,if_true,zB];refine zc (tk:=[]) (by kernel_rfl) ?_
  simp only [zl,go_os_nil,zd,zo,ofVal,zf,opQ_val,zr,zAB]
  simp only [go_ret,zB,Fx]
  refine ⟨trivial,[.bool true],?_,?_,trivial⟩
  ·simp [zU,za,hel]
  ·simp [xc,h1',h2',hany,tupOf];exact fun x hx=>zA8.1 hA x hx
end Go.Proofs.YtlnijcffanjieaaGreatDoor
namespace Go.Proofs.YtlnijcffanjieaaGreatDoor
open Go Go.Vm
theorem goEnds_gt:∀ (t:List Nat) (w:Wd) (i x:Nat),x∈goEnds w i t->i<x
 | [],_,_,_,h=>by simp [goEnds] at h
 | b::t,w,i,x,h=>by
  simp only [goEnds,zAr] at h;rcases h with h|h
  ·split at h
   ·simp at h;omega
   ·cases h
  ·have:=goEnds_gt t _ _ _ h;omega
theorem goEnds_mem:∀ (t:List Nat) (w:Wd) (i k:Nat),(i+k+1)∈goEnds w i t ↔ ∃ b,t[k]?=some b/\(stW (runE w i (t.take k)) (i+k == 0) b).2=true
 | [],_,_,_=>by simp [goEnds]
 | b::t,w,i,0=>by
  simp only [goEnds,zAr,List.take_zero,runE,zAk,zAt,zAA,exists_eq_left'];constructor
  ·rintro (h|h)
   ·split at h
    ·assumption
    ·cases h
   ·have:=goEnds_gt t _ _ _ h;omega
  ·intro h;rw [if_pos h];exact .inl (by simp)
 | b::t,w,i,k+1=>by
  have ih:=goEnds_mem t (stW w (i == 0) b).1 (i+1) k;have e1:i+1+k+1=i+(k+1)+1:=by omega
  have e2:i+1+k=i+(k+1):=by omega
  rw [e1,e2] at ih;simp only [goEnds,zAr,List.take_succ_cons,runE,zBM];rw [<- ih];constructor
  ·rintro (h|h)
   ·split at h
    ·simp at h
    ·cases h
   ·exact h
  ·exact .inr
theorem goEnds_len:∀ (t:List Nat) (w:Wd) (i:Nat),(goEnds w i t).length<=t.length
 | [],_,_=>by simp [goEnds]
 | b::t,w,i=>by
  have:=goEnds_len t (stW w (i == 0) b).1 (i+1);simp only [goEnds,zAc,zAS];split<;>simp<;>omega
theorem znQ (w:Wd) (t:List Nat):(yB w t).length<=t.length+1:=by
 have:=goEnds_len t w 0;simp only [yB,zAc];split<;>simp<;>omega
theorem ze4 (e:E) (t:List Nat):(kR e t).length<=t.length+1:=by
 unfold kR;split
 ·exact znQ ..
 ·simp
theorem zlT (w:Wd) (t:List Nat):0∈yB w t ↔ emW w=true:=by
 simp only [yB,zAr];constructor
 ·rintro (h|h)
  ·split at h
   ·assumption
   ·cases h
  ·have:=goEnds_gt _ _ _ _ h;omega
 ·intro h;rw [if_pos h];exact .inl (by simp)
theorem zlU (w:Wd) (t:List Nat) (k:Nat):(k+1)∈yB w t ↔ ∃ b,t[k]?=some b/\(stW (runE w 0 (t.take k)) (k == 0) b).2=true:=by
 have:=goEnds_mem t w 0 k;rw [zAU] at this;rw [<- this];simp only [yB,zAr];constructor
 ·rintro (h|h)
  ·split at h
   ·simp at h
   ·cases h
  ·exact h
 ·exact .inr
theorem zlV (e:E) (t:List Nat) (n:Nat) (h:n<=t.length):(kR e (t.take n)).contains n=(kR e t).contains n:=by
 rw [zBh];simp only [List.contains_iff_mem];unfold kR;cases foW e with
 | none=>simp
 | some w =>
  cases n with
  | zero=>simp only [zlT]
  | succ k =>
   simp only [zlU,List.take_take,Nat.min_eq_left (Nat.le_succ k),zA9];simp
end Go.Proofs.YtlnijcffanjieaaGreatDoor
namespace Go.Proofs.YtlnijcffanjieaaGreatDoor
open Go Go.Vm
abbrev Wo:=List Nat
inductive Plus (L:Wo->Prop):Wo->Prop
 |one {u:Wo}:L u->Plus L u
 |more {u v:Wo}:L u->Plus L v->Plus L (u++v)
theorem Plus.app {L:Wo->Prop} {u v:Wo} (h:Plus L u) (k:Plus L v):Plus L (u++v):=by
 induction h with
 | one h=>exact .more h k
 | more h _ ih=>rw [zAb];exact .more h ih
theorem Plus.mono {L M:Wo->Prop} {u:Wo} (hm:∀ u,L u->M u) (h:Plus L u):Plus M u:=by
 induction h with
 | one h=>exact .one (hm _ h)
 | more h _ ih=>exact .more (hm _ h) ih
theorem Plus.nil {L:Wo->Prop} {u:Wo} (h:Plus L u) (hu:u=[]):L []:=by
 induction h with
 | one h=>rw [hu] at h;exact h
 | more h _ ih=>rw [List.append_eq_nil_iff] at hu;rw [<- hu.1];exact h
def rn (w:Wd) (bg:Nat->Bool) (t:Nat->Nat):Nat->Wd
 | 0=>w
 | n+1=>(stW (rn w bg t n) (bg n) (t n)).1
end Go.Proofs.YtlnijcffanjieaaGreatDoor
namespace Go.Proofs.YtlnijcffanjieaaGreatDoor
open Go Go.Vm
end Go.Proofs.YtlnijcffanjieaaGreatDoor
namespace Go.Proofs.YtlnijcffanjieaaGreatDoor
open Go Go.Vm
mutual
def Lang:E->Wo->Prop
 | .mk op _ s0 s1 s2 s3 _ mn mx _ args=>fun u =>
  if op=2 then ∃ c,u=[c]/\zc5 (s0,s1,s2,s3) c=true
  else if op=5 then LCat args u
  else if op=6 then LAlt args u
  else if op=7 then (mn=0/\u=[])\/(if mx<0 then Plus (LHead args) u else LHead args u)
  else u=[]
def LCat:List E->Wo->Prop
 | []=>fun u=>u=[]
 | e::l=>fun u=>∃ x y,u=x++y/\Lang e x/\LCat l y
def LAlt:List E->Wo->Prop
 | []=>fun _=>False
 | e::l=>fun u=>Lang e u\/LAlt l u
def LHead:List E->Wo->Prop
 | []=>fun _=>False
 | e::_=>Lang e
end
end Go.Proofs.YtlnijcffanjieaaGreatDoor
namespace Go.Proofs.YtlnijcffanjieaaGreatDoor
open Go Go.Vm
structure Fine (e:E):Prop where
 wf:Wf e
 can:Can e
 rg:Rg e
 cor:Cor e
theorem zro {l:List E} (h:∀ a∈l,Fine a):Wfs l/\Cans l/\Rgs l/\Cors l:=by
 induction l with
 | nil=>exact ⟨trivial,trivial,trivial,trivial⟩
 | cons a l ih =>
  have ha:=h a (zAN ..);obtain ⟨h1,h2,h3,h4⟩:=ih fun b hb=>h b (zAE _ hb);exact ⟨⟨ha.wf,h1⟩,⟨ha.can,h2⟩,⟨ha.rg,h3⟩,⟨ha.cor,h4⟩⟩
theorem ml9:9<=maxLen:=by decide
theorem znR {l:List E} (h:∀ a∈l,Fine a) (h1:2<=l.length) (h2:l.length<=9):Fine (zjw l):=by
 obtain ⟨f1,f2,f3,f4⟩:=zro h;have:=ml9;refine ⟨⟨by simp,by omega,f1⟩,⟨by simp,f2⟩,⟨by decide,f3⟩,⟨rfl,?_,by omega,f4⟩⟩
 have:Sx.ltz 1 (l.length:Int)=true:=Sx.ltz_t (by omega)
 simp [kindB,this]
variable (A B C:E)
variable {A B C}
structure Pair (l r:E):Prop where
 lf:Fine l
 rf:Fine r
 ln:nodes l<=4000
 rn:nodes r<=4000
 same:∀ u,Lang l u ↔ Lang r u
end Go.Proofs.YtlnijcffanjieaaGreatDoor
namespace Go.Proofs.YtlnijcffanjieaaGreatDoor
set_option maxRecDepth 100000
open Go Go.Vm
def zL (L:List Nat):List Int:=L.map Int.ofNat
theorem zqr (L:List Nat):clr (qZ 1 3 (jW L))=qV true (zL L):=by
 rw [zg5];simp only [nvL,qV,jW,kj,zL,List.map_map];rfl
theorem zcH (a:List Int):(kp a).Perm a:=List.mergeSort_perm _ _
theorem zaw (a:List Int):(kp a).length=a.length:=List.length_mergeSort _
theorem zo1 (a:List Int):zjz a=qV true (kp a):=by
 unfold zjz qV Sx.lv;cases a with
 | nil=>simp [kp,kj]
 | cons x a =>
  have:(kj (kp (x::a))).isEmpty=false:=by
   have:=zaw (x::a);cases h:kp (x::a) with
   | nil=>rw [h] at this;simp at this
   | cons y b=>rfl
  simp [this]
theorem zrp {e:E} (hc:Cor e) (hr:Rg e) {nl:Bool} {t:List Nat} (ht:∀ b∈t,b<256) (htl:t.length<=65536) {n:Nat} (hn:2 * YtlnijcffanjieaaGreatDoor.hg e+t.length+2<=n) (bs:List Blk) (es:List (Nat×Nat)) :
  ∃ v H1 bs2 es2,callA Tryz.prog glM n 45 [enc e] ⟨bs,es⟩=some (.ret v,H1)/\clr v=v/\callA Tryz.prog glM n 44 [v,qP nl t] H1=some (.ret (qV true (zL (kR e t))),⟨bs2,es2⟩):=by
 obtain ⟨m,rfl⟩:∃ m,n=m+1:=⟨n - 1,by omega⟩
 obtain ⟨v,bs',es',h45,hnew,hes,hres⟩:=zkI GWb.toGW _ e (zAQ _) hc m (by omega) bs es
 rw [<- zqr];cases hfw:foW e with
 | none =>
  rw [hfw] at hres;obtain rfl:v=.nili:=hres;refine ⟨_,_,bs',es'++es,zoY (.inr rfl) h45,rfl,zoY (.inl rfl) ?_⟩;have:=zkJ GWb.toGW (n:=m) (bs:=bs') (es:=es'++es) (nl:=nl) (t:=t);rw [this];simp [kR,hfw,jW,qZ,clr]
 | some w =>
  rw [hfw] at hres;obtain ⟨hi,hhi,hat⟩:=hres;have hFW:=foW_FW _ e w (zAQ _) hfw;obtain ⟨bs2,h44,_,_⟩:=e44 GWb.toGW (n:=m) (es:=es'++es) (nl:=nl) (t:=t) hat (foW_rg _ e w (zAQ _) hc hr hfw) hhi (by omega) (by omega) ht htl
  obtain ⟨vt,vu,rfl⟩:=hat.ifc;refine ⟨_,_,bs2,es'++es,zoY (.inr rfl) h45,rfl,zoY (.inl rfl) ?_⟩;rw [h44];simp [kR,hfw]
theorem ze5 {c:Co} (hg:GdC c) (hk:zab c=true):Cor (qY c)/\Rg (qY c):=by
 obtain ⟨⟨g1,r1⟩,g2,r2⟩:=hg;simp only [zab,zAF] at hk;have c1:=zdT hk.1;unfold qY;cases hh:c.ht with
 | false=>simp;exact ⟨c1,r1⟩
 | true =>
  rw [hh] at hk;have c2:=zdT hk.2
  have:=znR (l:=[c.hd,c.tl]) (fun a ha=>by
   rcases zAM.1 ha with rfl|ha
   ·exact ⟨g1.1,g1.2,r1,c1⟩
   ·simp at ha;subst ha;exact ⟨g2.1,g2.2,r2,c2⟩) (by simp) (by simp)
  simp;exact ⟨this.cor,this.rg⟩
def zbz (l:List Co) (t:List Nat) (r:Int):Option Nat:=match l[r.toNat]? with|some c=>(kR (qY c) t).getLast?|none=>none
def ziH (l:List Co) (t:List Nat):List Int->Int
 | []=>-1
 | r::rs=>if zbz l t r=some t.length then r else ziH l t rs
def ziI (l:List Co) (a:List Int) (t:List Nat):Int:=ziH l t (kp a)
def zfn (l:List Co) (a:List Int) (t:List Nat):V:=if xc l a t.length then .tup [.int .i64 (ziI l a t),.nili] else .tup [.int .i64 0,erA]
structure Fuel (l:List Co) (a:List Int) (t:List Nat) (n:Nat):Prop where
 al:a.length+l.length+5<n
 e:∀ c∈l,2 * YtlnijcffanjieaaGreatDoor.hg (qY c)+t.length+2<=n
theorem m46 {n:Nat} {nl al tl:Bool} {l:List Co} {a:List Int} {t:List Nat} (hn:Fuel l a t n) (ha:a.length<2 ^ 60) (hl:l.length<2 ^ 60) (hc:∀ c∈l,GdC c) :
  Cx.callF ⟨Tryz.prog,glM.g,callA Tryz.prog glM n,glM.uq⟩ 46 [jA nl l,qV al a,qP tl t] ⟨[],[]⟩=some (.val (.bool (xc l a t.length)),⟨[],[]⟩):=by
 have:=hn.al;obtain ⟨m,rfl⟩:∃ m,n=m+1:=⟨n - 1,by omega⟩
 exact qb Tryz.func46 rfl (e46 (by omega) ha hl hc)
theorem m48 {n:Nat} (hn:1<=n) {al:Bool} {a:List Int}:Cx.callF ⟨Tryz.prog,glM.g,callA Tryz.prog glM n,glM.uq⟩ 48 [qV al a] ⟨[],[]⟩=some (.val (zda 0),⟨[.cells [qV al a] 36],[]⟩):=by
 obtain ⟨m,rfl⟩:∃ m,n=m+1:=⟨n - 1,by omega⟩
 exact qb Tryz.func48 rfl e48
theorem m47 {n:Nat} (hn:1<=n) {al:Bool} {a:List Int} (ha:a.length * 8<=140737488355328):Cx.callF ⟨Tryz.prog,glM.g,callA Tryz.prog glM n,glM.uq⟩ 47 [zda 0] ⟨[.cells [qV al a] 36],[]⟩=some (.val (qV true (kp a)),⟨[.cells [qV al a] 36],[]⟩):=by
 obtain ⟨m,rfl⟩:∃ m,n=m+1:=⟨n - 1,by omega⟩
 rw [<- zo1];exact qb Tryz.func47 rfl (s47 rfl ha)
theorem m49 {n:Nat} (hn:1<=n) {c:Co} (h:zdF c) (H:Hp):Cx.callF ⟨Tryz.prog,glM.g,callA Tryz.prog glM n,glM.uq⟩ 49 [wk c] H=some (.val (enc (qY c)),H):=by
 obtain ⟨m,rfl⟩:∃ m,n=m+1:=⟨n - 1,by omega⟩
 exact qb Tryz.func49 rfl (y6 (zqq h))
theorem mfe {e:E} (hc:Cor e) (hr:Rg e) {nl:Bool} {t:List Nat} (ht:∀ b∈t,b<256) (htl:t.length<=65536) {n:Nat} (hn:2 * YtlnijcffanjieaaGreatDoor.hg e+t.length+2<=n) (bs:List Blk) (es:List (Nat×Nat)) :
  ∃ v H1 bs2 es2,Cx.callF ⟨Tryz.prog,glM.g,callA Tryz.prog glM n,glM.uq⟩ 45 [enc e] ⟨bs,es⟩=some (.val v,H1)/\clr v=v/\Cx.callF ⟨Tryz.prog,glM.g,callA Tryz.prog glM n,glM.uq⟩ 44 [v,qP nl t] H1=some (.val (qV true (zL (kR e t))),⟨bs2,es2⟩):=by
 obtain ⟨v,H1,bs2,es2,h1,h2,h3⟩:=zrp hc hr (nl:=nl) ht htl hn bs es;exact ⟨v,H1,bs2,es2,qb Tryz.func45 rfl h1,h2,qb Tryz.func44 rfl h3⟩
theorem znS {l:List Co} {t:List Nat} {rs:List Int} {k:Nat} {r:Int} (h:rs[k]?=some r):ziH l t (rs.drop k)=if zbz l t r=some t.length then r else ziH l t (rs.drop (k+1)):=by
 have hk:k<rs.length:=(zAI.1 h).1;rw [zBI hk];rw [zAX hk] at h;cases h;rfl
theorem ze6 {l:List Co} {a:List Int} {t:Nat} (hm:xc l a t=true) {k:Nat} {r:Int} (h:(kp a)[k]?=some r):∃ (j:Nat) (c:Co),r=(j:Int)/\l[j]?=some c/\zab c=true:=by
 simp only [xc,zAF,zAu,decide_eq_true_eq] at hm;obtain ⟨⟨⟨h1,h2⟩,h3⟩,h4⟩:=hm;have hmem:r∈a:=(zcH a).mem_iff.1 (zAg h);have hoff:y9 l r=false:=by
  cases ho:y9 l r with
  | false=>rfl
  | true=>rw [List.any_eq_true.2 ⟨r,hmem,ho⟩] at h3;cases h3
 simp only [y9,zBV,decide_eq_false_iff_not] at hoff;have hj:r.toNat<l.length:=by omega
 exact ⟨r.toNat,l[r.toNat],by omega,zAX hj,zA8.1 h4 _ (List.getElem_mem hj)⟩
theorem zkR {l:List Co} {a:List Int} {t:Nat} (hm:xc l a t=true):t<=65536:=by
 simp only [xc,zAF,decide_eq_true_eq] at hm;exact hm.1.1.1
end Go.Proofs.YtlnijcffanjieaaGreatDoor
namespace Go.Proofs.YtlnijcffanjieaaGreatDoor
set_option maxRecDepth 100000
open Go Go.Vm
theorem g38 (H:Hp):zM Tryz.prog H glM.g 38 (.gptr 0 0)=some erA:=by
 have:glM.g 0 0=some erA:=GWb.g0;simp [zM,ag38,this]
theorem ze7 (L:List Nat):(zL L).length=L.length:=by simp [zL]
theorem zjE {L:List Nat} {k m:Nat} (h:L[k]?=some m):(zL L)[k]?=some (m:Int):=by simp [zL,h]
theorem zdc {n:Nat} (h:0<n) (h2:n<2 ^ 60):IntKind.i64.wrap ((n:Int) - 1)=((n - 1:Nat):Int):=by
 rw [w64 (by omega) (by omega)];omega
theorem ze8 {L:List Nat} (h:0<L.length):∃ m,L[L.length - 1]?=some m/\L.getLast?=some m:=by
 refine ⟨L[L.length - 1],zAX _,?_⟩;rw [List.getLast?_eq_getElem?,zAX]
theorem e24 {n:Nat} {nl al tl:Bool} {l:List Co} {a:List Int} {t:List Nat} (hn:Fuel l a t n) (ha:a.length * 8<=140737488355328) (hl:l.length<2 ^ 60) (hc:∀ c∈l,GdC c) (ht:∀ b∈t,b<256) :
  ∃ H',callA Tryz.prog glM (n+1) 24 [jA nl l,qV al a,qP tl t] ⟨[],[]⟩=some (.ret (zfn l a t),H'):=by
 suffices hmain:go ⟨Tryz.prog,glM.g,callA Tryz.prog glM n,glM.uq⟩ n (Fx Tryz.prog Tryz.f24.results.toList fun u H1=>u=zfn l a t) [.c (Tryz.f24.body.getD .skip)] .normal ⟨[jA nl l,qV al a,qP tl t]++List.replicate 46 (.tup []),⟨[],[]⟩,[],[]⟩ by
  obtain ⟨u,H1,h1,rfl⟩:=kM (gl:=glM) (f:=24) (bs:=[]) (es:=[]) (args:=[jA nl l,qV al a,qP tl t]) (n:=n) (zcG rfl _) (fun H=>zbT rfl _ _ _) Tryz.func24 rfl hmain;exact ⟨_,h1⟩
 have hal:=hn.al;have c46:=m46 (nl:=nl) (al:=al) (tl:=tl) hn (by omega) hl hc
 have c48:=m48 (n:=n) (by omega) (al:=al) (a:=a)
 have c47:=m47 (n:=n) (by omega) (al:=al) (a:=a) ha
 have hcv:clr (zda 0)=zda 0:=rfl;simp only [Tryz.f24,zA2,ze];refine zc (tk:=[]) (by kernel_rfl) ?_
 simp only [zl,go_os_nil,ze,zd,zo,ofVal,zf,opQ_val,zr,zAB,zAV,zAT,zAG,zAH,List.replicate]
 refine zc (tk:=[]) (by kernel_rfl) ?_
 simp only [zl,go_os_nil,ze,go_skip,zj,qM,zV,peeks,zN,peek,zb,opQ_val,zr,zk,zAC,zF,qo,zAW,zAi,zD,zK,zi,zp,zAG,zAH,kh,jl,qI,c46,unA]
 cases hmay:xc l a t.length with
 | false =>
  refine .inl ⟨rfl,?_⟩;refine yh [] [(false,false),(false,false),(false,false)] (tk:=[]) (by kernel_rfl) (by kernel_rfl) ?_
  simp only [zn,zd,peek,zh,zo,ofVal,zb,zf,zr,zAC,zAB,zAa,jg,zi,zp,zAG,zAH,oj_cons,oj_nil,xr,wj,ag38,g38,erA,qw,qz];simp only [go_ret,zB,qH,Fx]
  refine ⟨trivial,[.int .i64 0,erA],rfl,?_⟩;simp only [zfn,hmay,tupOf,zAD,if_false];rfl
 | true =>
 refine .inr ⟨rfl,?_⟩
 try simp only [go_skip]
 have htl:=zkR hmay;refine zc (tk:=[]) (by kernel_rfl) ?_
 simp only [zl,go_os_nil,zO,zj,qq,zV,peeks,zN,peek,ofVal,zb,opQ_val,zr,zAC,zAB,zF,qo,zAW,zAi,zi,zp,zAG,zAH,jl,c48,hcv,c47,zdy,zaw]
 refine yF (fun m s=>∃ k env B E,m+k=a.length/\s=⟨env,⟨B,E⟩,[],[]⟩/\env.length=49/\nth env 0=some (jA nl l)/\nth env 2=some (qP tl t)/\nth env 19=some (qV true (kp a))/\nth env 20=some (.int .i64 a.length)/\nth env 21=some (.int .i64 (k:Nat))/\ziI l a t=ziH l t ((kp a).drop k)) a.length (by omega) ⟨0,_,_,_,rfl,rfl,rfl,rfl,rfl,rfl,rfl,rfl,rfl⟩ ?_
 rintro m s ⟨k,env,B,E,hmk,rfl,hel,e0,e2,e19,e20,e21,hL⟩;simp only [ze];refine zc (tk:=[]) (by kernel_rfl) ?_
 simp only [zl,go_os_nil,ze,go_skip,zO,zv,peek,zb,opQ_val,zr,zq,zk,zD,zK,if_true,za,Nat.reduceLT,if_true,e20,e21,hel,wA]
 by_cases hk:k<a.length
 ·refine .inl ⟨by simp;omega,?_⟩
  obtain ⟨r,hr⟩:∃ r,(kp a)[k]?=some r:=⟨(kp a)[k]'(by rw [zaw];exact hk),zAX _⟩
  obtain ⟨j,c,rfl,hj,hok⟩:=ze6 hmay hr;have hcm:=zAg hj;have hgc:=hc c hcm;obtain ⟨w1,w2⟩:=ze5 hgc hok;obtain ⟨v,H1,bs2,es2,x45,xv,x44⟩:=mfe w1 w2 (nl:=tl) ht htl (hn.e c hcm) B E;have x49:=m49 (n:=n) (by omega) (c:=c) ⟨hgc.1.1.2,hgc.2.1.2⟩ ⟨B,E⟩
  have hlw:zbz l t (j:Int)=(kR (qY c) t).getLast?:=by simp only [zbz,zAs,hj]
  rw [znS hr,hlw] at hL;obtain ⟨L,hLd⟩:∃ L,L=kR (qY c) t:=⟨_,rfl⟩;have hll:L.length<=t.length+1:=by rw [hLd];exact ze4 _ _
  rw [<- hLd] at hL x44
  try simp only [go_skip,ze,zO]
  refine zc (tk:=[]) (by kernel_rfl) ?_
  simp only [zl,go_os_nil,ze,zn,zd,zG,Nat.reduceEqDiff,peek,zh,qn,zb,zf,opQ_val,zr,zq,jd,zAC,zAB,jz,if_true,za,zAR,Nat.reduceLT,if_true,if_false,e19,e21,hel,jl,jz,zf1 hr,zf2]
  refine zc (tk:=[]) (by kernel_rfl) ?_
  simp only [zl,go_os_nil,ze,zj,zn,zd,zG,zV,Nat.reduceEqDiff,peeks,zN,peek,zh,zb,zf,opQ_val,zr,zq,jd,zAC,zAB,jz,zF,qo,zAW,zAi,if_true,za,zAR,Nat.reduceLT,if_true,if_false,e0,e2,hel,kh,jz,znO hj,zjC,ze3,x49,vz,x45,xv,qI,x44,zdb]
  refine go_env (fun env=>env.length=49/\nth env 0=some (jA nl l)/\nth env 2=some (qP tl t)/\nth env 9=some (.int .i64 j)/\nth env 10=some (qV true (zL L))/\nth env 19=some (qV true (kp a))/\nth env 20=some (.int .i64 a.length)/\nth env 21=some (.int .i64 (k:Nat))) ⟨by simp [hel],by simp [za,e0],by simp [za,e2],by simp [za,hel],by simp [za,hel],by simp [za,e19],by simp [za,e20],by simp [za,e21]⟩ ?_
  clear hel e0 e2 e19 e20 e21 env;rintro env ⟨hel,e0,e2,e9,e10,e19,e20,e21⟩;refine zgW (fun s=>∃ env,s=⟨env,⟨bs2,es2⟩,[],[]⟩/\env.length=49/\nth env 0=some (jA nl l)/\nth env 2=some (qP tl t)/\nth env 9=some (.int .i64 j)/\nth env 19=some (qV true (kp a))/\nth env 20=some (.int .i64 a.length)/\nth env 21=some (.int .i64 (k:Nat))/\nth env 46=some (.bool (decide (L.getLast?=some t.length)))) ?_ ?_
  ·refine zc (tk:=[]) (by kernel_rfl) ?_
   by_cases h0:0<L.length
   ·obtain ⟨m',hm1,hm2⟩:=ze8 h0;have d1:decide ((L.length:Int) > 0)=true:=decide_eq_true (by omega)
    have hix:qh Tryz.prog 36 (qV true (zL L)) ((L.length - 1:Nat):Int)=some (.vp [.int .i64 (m':Nat)]):=zf1 (zjE hm1);have hdec:((m':Int) == (t.length:Int))=decide (L.getLast?=some t.length):=by
     rw [hm2]
     by_cases h:m'=t.length
     ·subst h;simp
     ·have:¬ (m':Int)=t.length:=by omega
      simp [h,this]
    simp only [zl,go_os_nil,zj,zn,zv,zS,zG,qq,Nat.reduceEqDiff,peek,ofVal,zb,opQ_val,zr,zq,zk,jd,zAC,zAB,jz,if_true,z6,za,zAR,Nat.reduceLT,if_true,if_false,zi,zp,jb,zQ,qm,wantB_tt,wx,e2,e10,hel,jl,zdy,ze7,wQ,d1,zgC,zdc h0 (show L.length<2 ^ 60 by omega),jz,hix,zf2,qI,za7,jH,hdec,zB,xG]
    exact ⟨_,rfl,by simp [hel],by simp [za,e0],by simp [za,e2],by simp [za,e9],by simp [za,e19],by simp [za,e20],by simp [za,e21],by simp [za,hel]⟩
   ·have d1:decide ((L.length:Int) > 0)=false:=decide_eq_false (by omega)
    have hL0:L=[]:=zBn (by omega)
    simp only [zl,go_os_nil,zj,zn,zv,zS,zG,qq,Nat.reduceEqDiff,peek,ofVal,zb,opQ_val,zr,zq,zk,zAC,zAB,jz,if_true,z7,za,zAR,Nat.reduceLT,if_true,if_false,zi,zp,jb,zQ,qm,wantB_tf,wG,e2,e10,hel,jl,zdy,ze7,wQ,d1,zB,xG]
    exact ⟨_,rfl,by simp [hel],by simp [za,e0],by simp [za,e2],by simp [za,e9],by simp [za,e19],by simp [za,e20],by simp [za,e21],by simp [za,hel,hL0]⟩
  clear hel e0 e2 e9 e10 e19 e20 e21 env;rintro s ⟨env,rfl,hel,e0,e2,e9,e19,e20,e21,e46⟩
  by_cases hlast:L.getLast?=some t.length
  ·rw [if_pos hlast] at hL;rw [decide_eq_true hlast] at e46;simp only [ze,go_skip,qW,peek,zk,zAa,zD,zK,e46]
   refine .inl ?_
   try simp only [ze]
   refine zc (tk:=[]) (by kernel_rfl) ?_
   simp only [zl,go_os_nil,zj,zd,peek,zh,zo,ofVal,qn,zb,zf,opQ_val,zr,zq,zAB,if_true,za,Nat.reduceLT,if_true,e9,hel]
   simp only [go_ret,zB,qH,j8,thn,Fx]
   refine ⟨trivial,[.int .i64 j,.nili],?_,?_⟩
   ·simp [zU,za,hel]
   ·simp [zfn,hmay,hL,tupOf,clr]
  ·rw [if_neg hlast] at hL;rw [decide_eq_false hlast] at e46;simp only [ze,go_skip,qW,peek,zk,zAa,zD,zK,e46]
   refine .inr ?_
   try simp only [go_skip,qW]
   refine zc (tk:=[]) (by kernel_rfl) ?_
   simp only [zl,go_os_nil,zj,zv,peek,ofVal,zb,opQ_val,zr,zq,if_true,za,Nat.reduceLT,if_true,e21,hel,jL (show k<2 ^ 60 by omega),zB,thn_normal]
   refine ⟨m - 1,by omega,k+1,_,_,_,by omega,rfl,?_,?_,?_,?_,?_,?_,hL⟩
   ·simp [hel]
   ·simp [za,e0]
   ·simp [za,e2]
   ·simp [za,e19]
   ·simp [za,e20]
   ·simp [za,hel]
 ·refine .inr ⟨by simp;omega,?_⟩
  obtain rfl:k=a.length:=by omega
  rw [zBj (by rw [zaw];exact zAQ _)] at hL
  simp only [yE,wC,kW,zB,thn_exit,ze,zBO,if_true,zB];refine zc (tk:=[]) (by kernel_rfl) ?_
  simp only [zl,go_os_nil,zd,zo,ofVal,zf,opQ_val,zr,zAB]
  simp only [go_ret,zB,Fx]
  refine ⟨trivial,[.int .i64 (-1),.nili],?_,?_⟩
  ·simp [zU,za,hel]
  ·simp [zfn,hmay,hL,ziH,tupOf,clr]
end Go.Proofs.YtlnijcffanjieaaGreatDoor
namespace Go.Proofs.YtlnijcffanjieaaGreatDoor
set_option maxRecDepth 100000
open Go Go.Vm
def zjF (l:List Co) (t:List Nat) (s:Nat×Int) (r:Int):Nat×Int:=match zbz l t r with
 | some m=>if s.1<m then (m,r) else s
 | none=>s
def zlW (l:List Co) (a:List Int) (t:List Nat):Nat×Int:=(kp a).foldl (zjF l t) (0,-1)
def zfo (l:List Co) (a:List Int) (t:List Nat):V:=if xc l a t.length then .tup [.int .i64 (zlW l a t).1,.int .i64 (zlW l a t).2,.nili] else .tup [.int .i64 0,.int .i64 0,erA]
theorem zlX {α β:Type} {f:β->α->β} {rs:List α} {k:Nat} {r:α} {s:β} (h:rs[k]?=some r):(rs.drop k).foldl f s=(rs.drop (k+1)).foldl f (f s r):=by
 have hk:k<rs.length:=(zAI.1 h).1;rw [zBI hk];rw [zAX hk] at h;cases h;rfl
def gtO (n:Nat):Option Nat->Bool
 | some m=>decide (n<m)
 | none=>false
theorem e23 {n:Nat} {nl al tl:Bool} {l:List Co} {a:List Int} {t:List Nat} (hn:Fuel l a t n) (ha:a.length * 8<=140737488355328) (hl:l.length<2 ^ 60) (hc:∀ c∈l,GdC c) (ht:∀ b∈t,b<256) :
  ∃ H',callA Tryz.prog glM (n+1) 23 [jA nl l,qV al a,qP tl t] ⟨[],[]⟩=some (.ret (zfo l a t),H'):=by
 suffices hmain:go ⟨Tryz.prog,glM.g,callA Tryz.prog glM n,glM.uq⟩ n (Fx Tryz.prog Tryz.f23.results.toList fun u H1=>u=zfo l a t) [.c (Tryz.f23.body.getD .skip)] .normal ⟨[jA nl l,qV al a,qP tl t]++List.replicate 54 (.tup []),⟨[],[]⟩,[],[]⟩ by
  obtain ⟨u,H1,h1,rfl⟩:=kM (gl:=glM) (f:=23) (bs:=[]) (es:=[]) (args:=[jA nl l,qV al a,qP tl t]) (n:=n) (zcG rfl _) (fun H=>zbT rfl _ _ _) Tryz.func23 rfl hmain;exact ⟨_,h1⟩
 have hal:=hn.al;have c46:=m46 (nl:=nl) (al:=al) (tl:=tl) hn (by omega) hl hc
 have c48:=m48 (n:=n) (by omega) (al:=al) (a:=a)
 have c47:=m47 (n:=n) (by omega) (al:=al) (a:=a) ha
 have hcv:clr (zda 0)=zda 0:=rfl;simp only [Tryz.f23,zA2,ze];refine zc (tk:=[]) (by kernel_rfl) ?_
 simp only [zl,go_os_nil,ze,zd,zo,ofVal,zf,opQ_val,zr,zAB,zAV,zAT,zAG,zAH,List.replicate]
 refine zc (tk:=[]) (by kernel_rfl) ?_
 simp only [zl,go_os_nil,ze,go_skip,zj,qM,zV,peeks,zN,peek,zb,opQ_val,zr,zk,zAC,zF,qo,zAW,zAi,zD,zK,zi,zp,zAG,zAH,kh,jl,qI,c46,unA]
 cases hmay:xc l a t.length with
 | false =>
  refine .inl ⟨rfl,?_⟩;refine yh [] [(false,false),(false,false),(false,false),(false,false)] (tk:=[]) (by kernel_rfl) (by kernel_rfl) ?_
  simp only [zn,zd,peek,zh,zo,ofVal,zb,zf,zr,zAC,zAB,zAa,jg,zi,zp,zAG,zAH,oj_cons,oj_nil,xr,wj,ag38,g38,erA,qw,qz];simp only [go_ret,zB,qH,Fx]
  refine ⟨trivial,[.int .i64 0,.int .i64 0,erA],rfl,?_⟩;simp only [zfo,hmay,tupOf,zAD,if_false];rfl
 | true =>
 refine .inr ⟨rfl,?_⟩
 try simp only [go_skip]
 have htl:=zkR hmay;refine zc (tk:=[]) (by kernel_rfl) ?_
 simp only [zl,go_os_nil,ze,zd,zo,ofVal,zf,opQ_val,zr,zAB,zAG,zAH]
 refine zc (tk:=[]) (by kernel_rfl) ?_
 simp only [zl,go_os_nil,zO,zj,qq,zV,peeks,zN,peek,ofVal,zb,opQ_val,zr,zAC,zAB,zF,qo,zAW,zAi,zi,zp,zAG,zAH,jl,c48,hcv,c47,zdy,zaw]
 refine yF (fun m s=>∃ k env B E st,m+k=a.length/\s=⟨env,⟨B,E⟩,[],[]⟩/\env.length=57/\nth env 0=some (jA nl l)/\nth env 2=some (qP tl t)/\nth env 6=some (.int .i64 (st.1:Nat))/\nth env 7=some (.int .i64 st.2)/\nth env 20=some (qV true (kp a))/\nth env 21=some (.int .i64 a.length)/\nth env 22=some (.int .i64 (k:Nat))/\zlW l a t=((kp a).drop k).foldl (zjF l t) st) a.length (by omega) ⟨0,_,_,_,(0,-1),rfl,rfl,rfl,rfl,rfl,rfl,rfl,rfl,rfl,rfl,rfl⟩ ?_
 rintro m s ⟨k,env,B,E,st,hmk,rfl,hel,e0,e2,e6,e7,e20,e21,e22,hL⟩;simp only [ze];refine zc (tk:=[]) (by kernel_rfl) ?_
 simp only [zl,go_os_nil,ze,go_skip,zO,zv,peek,zb,opQ_val,zr,zq,zk,zD,zK,if_true,za,Nat.reduceLT,if_true,e21,e22,hel,wA]
 by_cases hk:k<a.length
 ·refine .inl ⟨by simp;omega,?_⟩
  obtain ⟨r,hr⟩:∃ r,(kp a)[k]?=some r:=⟨(kp a)[k]'(by rw [zaw];exact hk),zAX _⟩
  obtain ⟨j,c,rfl,hj,hok⟩:=ze6 hmay hr;have hcm:=zAg hj;have hgc:=hc c hcm;obtain ⟨w1,w2⟩:=ze5 hgc hok;obtain ⟨v,H1,bs2,es2,x45,xv,x44⟩:=mfe w1 w2 (nl:=tl) ht htl (hn.e c hcm) B E;have x49:=m49 (n:=n) (by omega) (c:=c) ⟨hgc.1.1.2,hgc.2.1.2⟩ ⟨B,E⟩
  have hlw:zbz l t (j:Int)=(kR (qY c) t).getLast?:=by simp only [zbz,zAs,hj]
  rw [zlX hr] at hL;simp only [zjF,hlw] at hL;obtain ⟨L,hLd⟩:∃ L,L=kR (qY c) t:=⟨_,rfl⟩;have hll:L.length<=t.length+1:=by rw [hLd];exact ze4 _ _
  rw [<- hLd] at hL x44
  try simp only [go_skip,ze,zO]
  refine zc (tk:=[]) (by kernel_rfl) ?_
  simp only [zl,go_os_nil,ze,zn,zd,zG,Nat.reduceEqDiff,peek,zh,qn,zb,zf,opQ_val,zr,zq,jd,zAC,zAB,jz,if_true,za,zAR,Nat.reduceLT,if_true,if_false,e20,e22,hel,jl,jz,zf1 hr,zf2]
  refine zc (tk:=[]) (by kernel_rfl) ?_
  simp only [zl,go_os_nil,ze,zj,zn,zd,zG,zV,Nat.reduceEqDiff,peeks,zN,peek,zh,zb,zf,opQ_val,zr,zq,jd,zAC,zAB,jz,zF,qo,zAW,zAi,if_true,za,zAR,Nat.reduceLT,if_true,if_false,e0,e2,hel,kh,jz,znO hj,zjC,ze3,x49,vz,x45,xv,qI,x44,zdb]
  refine go_env (fun env=>env.length=57/\nth env 0=some (jA nl l)/\nth env 2=some (qP tl t)/\nth env 6=some (.int .i64 (st.1:Nat))/\nth env 7=some (.int .i64 st.2)/\nth env 10=some (.int .i64 j)/\nth env 11=some (qV true (zL L))/\nth env 20=some (qV true (kp a))/\nth env 21=some (.int .i64 a.length)/\nth env 22=some (.int .i64 (k:Nat))) ⟨by simp [hel],by simp [za,e0],by simp [za,e2],by simp [za,e6],by simp [za,e7],by simp [za,hel],by simp [za,hel],by simp [za,e20],by simp [za,e21],by simp [za,e22]⟩ ?_
  clear hel e0 e2 e6 e7 e20 e21 e22 env;rintro env ⟨hel,e0,e2,e6,e7,e10,e11,e20,e21,e22⟩
  refine zgW (fun s=>∃ env,s=⟨env,⟨bs2,es2⟩,[],[]⟩/\env.length=57/\nth env 0=some (jA nl l)/\nth env 2=some (qP tl t)/\nth env 6=some (.int .i64 (st.1:Nat))/\nth env 7=some (.int .i64 st.2)/\nth env 10=some (.int .i64 j)/\nth env 11=some (qV true (zL L))/\nth env 20=some (qV true (kp a))/\nth env 21=some (.int .i64 a.length)/\nth env 22=some (.int .i64 (k:Nat))/\nth env 46=some (.bool (gtO st.1 L.getLast?))) ?_ ?_
  ·refine zc (tk:=[]) (by kernel_rfl) ?_
   by_cases h0:0<L.length
   ·obtain ⟨m',hm1,hm2⟩:=ze8 h0;have d1:decide ((L.length:Int) > 0)=true:=decide_eq_true (by omega)
    have hix:qh Tryz.prog 36 (qV true (zL L)) ((L.length - 1:Nat):Int)=some (.vp [.int .i64 (m':Nat)]):=zf1 (zjE hm1);have hdec:decide ((m':Int) > (st.1:Int))=gtO st.1 L.getLast?:=by
     rw [hm2];exact decide_eq_decide.2 ⟨fun h=>by omega,fun h=>by omega⟩
    simp only [zl,go_os_nil,zj,zn,zv,zS,zG,qq,Nat.reduceEqDiff,peek,ofVal,zb,opQ_val,zr,zq,zk,jd,zAC,zAB,jz,if_true,z6,za,zAR,Nat.reduceLT,if_true,if_false,zi,zp,jb,zQ,qm,wantB_tt,wx,e6,e11,hel,jl,zdy,ze7,wQ,d1,zgC,zdc h0 (show L.length<2 ^ 60 by omega),jz,hix,zf2,hdec,zB,xG]
    exact ⟨_,rfl,by simp [hel],by simp [za,e0],by simp [za,e2],by simp [za,e6],by simp [za,e7],by simp [za,e10],by simp [za,e11],by simp [za,e20],by simp [za,e21],by simp [za,e22],by simp [za,hel]⟩
   ·have d1:decide ((L.length:Int) > 0)=false:=decide_eq_false (by omega)
    have hL0:L=[]:=zBn (by omega)
    simp only [zl,go_os_nil,zj,zn,zv,zS,zG,qq,Nat.reduceEqDiff,peek,ofVal,zb,opQ_val,zr,zq,zk,zAC,zAB,jz,if_true,z7,za,zAR,Nat.reduceLT,if_true,if_false,zi,zp,jb,zQ,qm,wantB_tf,wG,e6,e11,hel,jl,zdy,ze7,wQ,d1,zB,xG]
    exact ⟨_,rfl,by simp [hel],by simp [za,e0],by simp [za,e2],by simp [za,e6],by simp [za,e7],by simp [za,e10],by simp [za,e11],by simp [za,e20],by simp [za,e21],by simp [za,e22],by simp [za,hel,hL0,gtO]⟩
  clear hel e0 e2 e6 e7 e10 e11 e20 e21 e22 env;rintro s ⟨env,rfl,hel,e0,e2,e6,e7,e10,e11,e20,e21,e22,eB⟩;cases hg:gtO st.1 L.getLast? with
  | true =>
   have h0:0<L.length:=by
    cases L with
    | nil=>simp [gtO] at hg
    | cons x L=>simp
   obtain ⟨m',hm1,hm2⟩:=ze8 h0;have hix:qh Tryz.prog 36 (qV true (zL L)) ((L.length - 1:Nat):Int)=some (.vp [.int .i64 (m':Nat)]):=zf1 (zjE hm1);rw [hm2] at hL hg;simp only [gtO,decide_eq_true_eq] at hg;simp only [if_pos hg] at hL;rw [hm2] at eB;simp only [gtO,decide_eq_true hg] at eB;simp only [go_skip,qW,peek,zk,zAa,zD,zK,eB]
   refine .inl ?_;refine zc (tk:=[]) (by kernel_rfl) ?_
   simp only [zl,go_os_nil,qW,zj,zn,zv,zd,zG,qq,Nat.reduceEqDiff,peek,zh,ofVal,qn,zb,zf,opQ_val,zr,zq,jd,zAC,zAB,jz,if_true,za,zAR,Nat.reduceLT,if_true,if_false,e10,e11,hel,jl,zdy,ze7,zgC,zdc h0 (show L.length<2 ^ 60 by omega),jz,hix,zf2]
   refine zc (tk:=[]) (by kernel_rfl) ?_
   simp only [zl,go_os_nil,zj,zv,Nat.reduceEqDiff,peek,ofVal,zb,opQ_val,zr,zq,if_true,za,zAR,Nat.reduceLT,if_true,if_false,e22,hel,jL (show k<2 ^ 60 by omega),zB,thn_normal]
   refine ⟨m - 1,by omega,k+1,_,_,_,(m',(j:Int)),by omega,rfl,?_,?_,?_,?_,?_,?_,?_,?_,hL⟩
   ·simp [hel]
   ·simp [za,e0]
   ·simp [za,e2]
   ·simp [za,hel]
   ·simp [za,hel]
   ·simp [za,e20]
   ·simp [za,e21]
   ·simp [za,hel]
  | false =>
   have hL':zlW l a t=((kp a).drop (k+1)).foldl (zjF l t) st:=by
    rw [hL];cases hx:L.getLast? with
    | none=>rfl
    | some m'=>rw [hx] at hg;simp only [gtO,decide_eq_false_iff_not] at hg;simp only [if_neg hg]
   rw [hg] at eB;simp only [go_skip,qW,peek,zk,zAa,zD,zK,eB]
   refine .inr ?_
   try simp only [go_skip,qW]
   refine zc (tk:=[]) (by kernel_rfl) ?_
   simp only [zl,go_os_nil,zj,zv,peek,ofVal,zb,opQ_val,zr,zq,if_true,za,Nat.reduceLT,if_true,e22,hel,jL (show k<2 ^ 60 by omega),zB,thn_normal]
   refine ⟨m - 1,by omega,k+1,_,_,_,st,by omega,rfl,?_,?_,?_,?_,?_,?_,?_,?_,hL'⟩
   ·simp [hel]
   ·simp [za,e0]
   ·simp [za,e2]
   ·simp [za,e6]
   ·simp [za,e7]
   ·simp [za,e20]
   ·simp [za,e21]
   ·simp [za,hel]
 ·refine .inr ⟨by simp;omega,?_⟩
  obtain rfl:k=a.length:=by omega
  rw [zBj (by rw [zaw];exact zAQ _)] at hL
  simp only [List.foldl_nil] at hL;simp only [yE,wC,kW,zB,thn_exit,ze,zBO,if_true,zB];refine zc (tk:=[]) (by kernel_rfl) ?_
  simp only [zl,go_os_nil,zj,zd,Nat.reduceEqDiff,peek,zh,zo,ofVal,qn,zb,zf,opQ_val,zr,zq,zAB,if_true,za,zAR,Nat.reduceLT,if_true,if_false,e6,e7,hel]
  simp only [go_ret,zB,Fx]
  refine ⟨trivial,[.int .i64 (st.1:Nat),.int .i64 st.2,.nili],?_,?_⟩
  ·simp [zU,za,hel]
  ·simp [zfo,hmay,hL,tupOf,clr]
end Go.Proofs.YtlnijcffanjieaaGreatDoor
namespace Go.Proofs.YtlnijcffanjieaaGreatDoor
open Go Go.Vm
theorem goEnds_le:∀ (t:List Nat) (w:Wd) (i x:Nat),x∈goEnds w i t->x<=i+t.length
 | [],_,_,_,h=>by simp [goEnds] at h
 | b::t,w,i,x,h=>by
  simp only [goEnds,zAr] at h;simp only [zAS];rcases h with h|h
  ·split at h
   ·simp at h;omega
   ·simp at h
  ·have:=goEnds_le t _ _ _ h;omega
theorem goEnds_pw:∀ (t:List Nat) (w:Wd) (i:Nat),(goEnds w i t).Pairwise (· < ·)
 | [],_,_=>by simp [goEnds]
 | b::t,w,i=>by
  simp only [goEnds];refine List.pairwise_append.2 ⟨?_,goEnds_pw t _ _,fun x hx y hy=>?_⟩
  ·split<;>simp
  ·have:=goEnds_gt t _ _ _ hy;split at hx
   ·simp at hx;omega
   ·simp at hx
theorem zo2 {e:E} {t:List Nat} {x:Nat} (h:x∈kR e t):x<=t.length:=by
 unfold kR at h;split at h
 ·simp only [yB,zAr] at h;rcases h with h|h
  ·split at h
   ·simp at h;omega
   ·simp at h
  ·have:=goEnds_le _ _ _ _ h;omega
 ·simp at h
theorem zo3 (e:E) (t:List Nat):(kR e t).Pairwise (· < ·):=by
 unfold kR;split
 ·simp only [yB];refine List.pairwise_append.2 ⟨?_,goEnds_pw _ _ _,fun x hx y hy=>?_⟩
  ·split<;>simp
  ·have:=goEnds_gt _ _ _ _ hy;split at hx
   ·simp at hx;omega
   ·simp at hx
 ·simp
theorem ziJ {L:List Nat} (h:L.Pairwise (· < ·)) {m:Nat}:L.getLast?=some m ↔ m∈L/\∀ x∈L,x<=m:=by
 constructor
 ·intro hl;have hm:=List.mem_of_getLast? hl;refine ⟨hm,fun x hx=>?_⟩;obtain ⟨A,rfl⟩:∃ A,L=A++[m]:=List.getLast?_eq_some_iff.1 hl;rcases zAr.1 hx with hx|hx
  ·exact Nat.le_of_lt ((List.pairwise_append.1 h).2.2 x hx m (by simp))
  ·simp at hx;omega
 ·rintro ⟨hm,hx⟩;cases hl:L.getLast? with
  | none=>rw [List.getLast?_eq_none_iff] at hl;rw [hl] at hm;simp at hm
  | some m' =>
   have hm':=List.mem_of_getLast? hl;have h1:=hx m' hm';obtain ⟨A,rfl⟩:∃ A,L=A++[m']:=List.getLast?_eq_some_iff.1 hl;rcases zAr.1 hm with hm|hm
   ·have:=(List.pairwise_append.1 h).2.2 m hm m' (by simp);omega
   ·simp at hm;rw [hm]
def gw (l:List Co) (t:List Nat) (r:Int):List Nat:=match l[r.toNat]? with|some c=>kR (qY c) t|none=>[]
theorem ziK (l:List Co) (t:List Nat) (r:Int):zbz l t r=(gw l t r).getLast?:=by unfold zbz gw;cases l[r.toNat]?<;>rfl
theorem zpz (l:List Co) (t:List Nat) (r:Int):(gw l t r).Pairwise (· < ·):=by unfold gw;split;exact zo3 _ _;simp
theorem znT {l:List Co} {t:List Nat} {r:Int} {x:Nat} (h:x∈gw l t r):x<=t.length:=by
 unfold gw at h;split at h;exact zo2 h;simp at h
theorem zo4 {l:List Co} {t:List Nat} {r:Int} {n:Nat} (h:n<=t.length):n∈gw l (t.take n) r ↔ n∈gw l t r:=by
 unfold gw;split
 ·rename_i c _;have:=zlV (qY c) t n h;simpa using congrArg (·=true) this
 ·simp
theorem last_len {l:List Co} {t:List Nat} {r:Int}:zbz l t r=some t.length ↔ t.length∈gw l t r:=by
 rw [ziK,ziJ (zpz l t r)];exact ⟨fun h=>h.1,fun h=>⟨h,fun x hx=>znT hx⟩⟩
def Lst (p:Int->Prop) (a:List Int) (x:Int):Prop:=(x = -1/\∀ r∈a,¬ p r)\/(x∈a/\p x/\∀ r∈a,p r->x<=r)
theorem zqs {p:Int->Prop} {a:List Int} {x y:Int} (_ha:∀ r∈a,0<=r) (hx:Lst p a x) (hy:Lst p a y):x=y:=by
 rcases hx with ⟨h1,h2⟩|⟨h1,h2,h3⟩<;>rcases hy with ⟨k1,k2⟩|⟨k1,k2,k3⟩
 ·rw [h1,k1]
 ·exact absurd k2 (h2 y k1)
 ·exact absurd h2 (k2 x h1)
 ·have:=h3 y k1 k2;have:=k3 x h1 h2;omega
theorem zo5 {p:Int->Prop} {a:List Int} {x:Int} (ha:∀ r∈a,0<=r) (hx:Lst p a x):0<=x ↔ ∃ r∈a,p r:=by
 rcases hx with ⟨h1,h2⟩|⟨h1,h2,h3⟩
 ·subst h1;exact ⟨fun h=>by omega,fun ⟨r,hr,hp⟩=>absurd hp (h2 r hr)⟩
 ·exact ⟨fun _=>⟨x,h1,h2⟩,fun _=>ha x h1⟩
theorem znU {p:Int->Prop} {a b:List Int} {x:Int} (h:∀ r,r∈a ↔ r∈b) (hx:Lst p a x):Lst p b x:=by
 rcases hx with ⟨h1,h2⟩|⟨h1,h2,h3⟩
 ·exact .inl ⟨h1,fun r hr=>h2 r ((h r).2 hr)⟩
 ·exact .inr ⟨(h x).1 h1,h2,fun r hr=>h3 r ((h r).2 hr)⟩
theorem znV (a:List Int):(kp a).Pairwise (·<=·):=by
 have:=List.pairwise_mergeSort (le:=fun (x y:Int)=>decide (x<=y)) (fun a b c h1 h2=>by simp at *;omega) (fun a b=>by simp;omega) a
 exact this.imp fun h=>of_decide_eq_true h
theorem ziL (l:List Co) (t:List Nat):∀ (rs:List Int),rs.Pairwise (·<=·)->Lst (fun r=>t.length∈gw l t r) rs (ziH l t rs)
 | [],_=>.inl ⟨rfl,by simp⟩
 | r::rs,h=>by
  have h':=List.pairwise_cons.1 h;simp only [ziH];split
  ·rename_i hl;refine .inr ⟨zAN ..,last_len.1 hl,fun x hx _=>?_⟩;rcases zAM.1 hx with rfl|hx
   ·exact Int.le_refl _
   ·exact h'.1 x hx
  ·rename_i hl;have hn:¬ t.length∈gw l t r:=fun h=>hl (last_len.2 h);rcases ziL l t rs h'.2 with ⟨h1,h2⟩|⟨h1,h2,h3⟩
   ·refine .inl ⟨h1,fun x hx=>?_⟩;rcases zAM.1 hx with rfl|hx
    ·exact hn
    ·exact h2 x hx
   ·refine .inr ⟨zAE _ h1,h2,fun x hx hp=>?_⟩;rcases zAM.1 hx with rfl|hx
    ·exact absurd hp hn
    ·exact h3 x hx hp
theorem ziM (l:List Co) (a:List Int) (t:List Nat):Lst (fun r=>t.length∈gw l t r) a (ziI l a t) :=
 znU (fun _r=>(zcH a).mem_iff) (ziL l t _ (znV a))
def zax (l:List Co) (t:List Nat) (out r:Int):Int:=if (gw l t r).contains t.length && (decide (out<0) || decide (r<out)) then r else out
def zha (l:List Co) (a:List Int) (t:List Nat):Int:=a.foldl (zax l t) (-1)
theorem zjG (l:List Co) (a:List Int) (t:List Nat) (ha:∀ r∈a,0<=r):Lst (fun r=>t.length∈gw l t r) a (zha l a t):=by
 have key:∀ (b pre:List Int) (x:Int),pre++b=a->Lst (fun r=>t.length∈gw l t r) pre x->Lst (fun r=>t.length∈gw l t r) a (b.foldl (zax l t) x):=by
  intro b
  induction b with
  | nil=>intro pre x h hx;simp only [zBG] at h;subst h;exact hx
  | cons r b ih =>
   intro pre x h hx;refine ih (pre++[r]) _ (by simp [h]) ?_
   have hr0:0<=r:=ha r (by rw [<- h];simp)
   have hpre:∀ y∈pre,0<=y:=fun y hy=>ha y (by rw [<- h];simp [hy])
   have hmem:∀ y,y∈pre++[r] ↔ y∈pre\/y=r:=fun y=>by simp
   unfold zax
   by_cases hc:t.length∈gw l t r
   ·have hc':(gw l t r).contains t.length=true:=by simpa using hc
    rcases hx with ⟨h1,h2⟩|⟨h1,h2,h3⟩
    ·subst h1;simp only [hc',zBT,show decide ((-1:Int)<0)=true by decide,zBs,if_true]
     refine .inr ⟨by simp,hc,fun y hy hp=>?_⟩
     rcases (hmem y).1 hy with hy|rfl
     ·exact absurd hp (h2 y hy)
     ·exact Int.le_refl _
    ·have hx0:=hpre x h1
     by_cases hlt:r<x
     ·simp only [hc',zBT,decide_eq_true hlt,zBw,if_true];refine .inr ⟨by simp,hc,fun y hy hp=>?_⟩
      rcases (hmem y).1 hy with hy|rfl
      ·have:=h3 y hy hp;omega
      ·exact Int.le_refl _
     ·simp only [decide_eq_false hlt,decide_eq_false (show ¬ x<0 by omega),zBb,zBk,zAD,if_false]
      refine .inr ⟨by simp [h1],h2,fun y hy hp=>?_⟩
      rcases (hmem y).1 hy with hy|rfl
      ·exact h3 y hy hp
      ·omega
   ·have hc':(gw l t r).contains t.length=false:=by simpa using hc
    simp only [hc',zBu,zAD,if_false];rcases hx with ⟨h1,h2⟩|⟨h1,h2,h3⟩
    ·refine .inl ⟨h1,fun y hy=>?_⟩;rcases (hmem y).1 hy with hy|rfl
     ·exact h2 y hy
     ·exact hc
    ·refine .inr ⟨by simp [h1],h2,fun y hy hp=>?_⟩
     rcases (hmem y).1 hy with hy|rfl
     ·exact h3 y hy hp
     ·exact absurd hp hc
 exact key a [] (-1) rfl (.inl ⟨rfl,by simp⟩)
theorem zlY (l:List Co) (a:List Int) (t:List Nat) (ha:∀ r∈a,0<=r):ziI l a t=zha l a t:=zqs ha (ziM l a t) (zjG l a t ha)
def Lon (l:List Co) (t:List Nat) (a:List Int) (s:Nat×Int):Prop :=
 (s.1=0/\s.2 = -1/\∀ r∈a,∀ m∈gw l t r,m=0)\/(0<s.1/\s.2∈a/\s.1∈gw l t s.2/\∀ r∈a,∀ m∈gw l t r,m<=s.1/\(m=s.1->s.2<=r))
theorem zqt {l:List Co} {t:List Nat} {a:List Int} {s s':Nat×Int} (h:Lon l t a s) (k:Lon l t a s'):s=s':=by
 rcases h with ⟨h1,h2,h3⟩|⟨h1,h2,h3,h4⟩<;>rcases k with ⟨k1,k2,k3⟩|⟨k1,k2,k3,k4⟩
 ·exact Prod.ext (h1.trans k1.symm) (h2.trans k2.symm)
 ·have:=h3 _ k2 _ k3;omega
 ·have:=k3 _ h2 _ h3;omega
 ·have a1:=h4 _ k2 _ k3;have a2:=k4 _ h2 _ h3;have e:s.1=s'.1:=by omega
  have b1:=a1.2 e.symm;have b2:=a2.2 e;exact Prod.ext e (by omega)
theorem znW (l:List Co) (a:List Int) (t:List Nat):Lon l t a (zlW l a t):=by
 have key:∀ (b pre:List Int) (s:Nat×Int),(pre++b).Pairwise (·<=·)->Lon l t pre s->Lon l t (pre++b) (b.foldl (zjF l t) s):=by
  intro b
  induction b with
  | nil=>intro pre s _ hs;simpa using hs
  | cons r b ih =>
   intro pre s hpw hs;have hstep:Lon l t (pre++[r]) (zjF l t s r):=by
    have hmem:∀ y,y∈pre++[r] ↔ y∈pre\/y=r:=fun y=>by simp
    have hle:∀ y∈pre,y<=r:=fun y hy=>(List.pairwise_append.1 hpw).2.2 y hy r (by simp)
    unfold zjF;rw [ziK];cases hl:(gw l t r).getLast? with
    | none =>
     have hnil:gw l t r=[]:=List.getLast?_eq_none_iff.1 hl;simp only;rcases hs with ⟨h1,h2,h3⟩|⟨h1,h2,h3,h4⟩
     ·refine .inl ⟨h1,h2,fun y hy m hm=>?_⟩;rcases (hmem y).1 hy with hy|rfl
      ·exact h3 y hy m hm
      ·rw [hnil] at hm;simp at hm
     ·refine .inr ⟨h1,by simp [h2],h3,fun y hy m hm=>?_⟩
      rcases (hmem y).1 hy with hy|rfl
      ·exact h4 y hy m hm
      ·rw [hnil] at hm;simp at hm
    | some m0 =>
     obtain ⟨l1,l2⟩:=(ziJ (zpz l t r)).1 hl;simp only;split
     ·rename_i hlt;refine .inr ⟨by omega,by simp,l1,fun y hy m hm=>?_⟩
      rcases (hmem y).1 hy with hy|rfl
      ·have:m<=s.1:=by
        rcases hs with ⟨h1,h2,h3⟩|⟨h1,h2,h3,h4⟩
        ·have:=h3 y hy m hm;omega
        ·exact (h4 y hy m hm).1
       exact ⟨by simp only;omega,fun h=>by simp only at h;omega⟩
      ·exact ⟨l2 m hm,fun _=>Int.le_refl _⟩
     ·rename_i hlt;rcases hs with ⟨h1,h2,h3⟩|⟨h1,h2,h3,h4⟩
      ·refine .inl ⟨h1,h2,fun y hy m hm=>?_⟩;rcases (hmem y).1 hy with hy|rfl
       ·exact h3 y hy m hm
       ·have:=l2 m hm;omega
      ·refine .inr ⟨h1,by simp [h2],h3,fun y hy m hm=>?_⟩
       rcases (hmem y).1 hy with hy|rfl
       ·exact h4 y hy m hm
       ·have:=l2 m hm;exact ⟨by omega,fun _=>hle _ h2⟩
   have:=ih (pre++[r]) _ (by simpa using hpw) hstep
   simpa using this
 have h:=key (kp a) [] (0,-1) (by simpa using znV a) (.inl ⟨rfl,rfl,by simp⟩)
 simp only [zAT] at h;have hm:∀ r,r∈kp a ↔ r∈a:=fun r=>(zcH a).mem_iff;rcases h with ⟨h1,h2,h3⟩|⟨h1,h2,h3,h4⟩
 ·exact .inl ⟨h1,h2,fun r hr=>h3 r ((hm r).2 hr)⟩
 ·exact .inr ⟨h1,(hm _).1 h2,h3,fun r hr=>h4 r ((hm r).2 hr)⟩
def bl (l:List Co) (a:List Int) (t:List Nat):Nat->Nat×Int
 | 0=>(0,-1)
 | k+1=>if 0<k/\0<=ziI l a (t.take k) then (k,ziI l a (t.take k)) else bl l a t k
theorem znX {l:List Co} {a:List Int} {t:List Nat} {k:Nat} (hk:k<=t.length):Lst (fun r=>k∈gw l t r) a (ziI l a (t.take k)):=by
 have h:=ziM l a (t.take k);rw [zBA,Nat.min_eq_left hk] at h;have e:∀ r,k∈gw l (t.take k) r ↔ k∈gw l t r:=fun r=>zo4 hk;rcases h with ⟨h1,h2⟩|⟨h1,h2,h3⟩
 ·exact .inl ⟨h1,fun r hr h=>h2 r hr ((e r).2 h)⟩
 ·exact .inr ⟨h1,(e _).1 h2,fun r hr h=>h3 r hr ((e r).2 h)⟩
theorem zqu (l:List Co) (a:List Int) (t:List Nat) (ha:∀ r∈a,0<=r):bl l a t (t.length+1)=zlW l a t:=by
 have key:∀ k,k<=t.length+1->((bl l a t k).1=0/\(bl l a t k).2 = -1/\∀ r∈a,∀ m∈gw l t r,m<k->m=0) \/
   (0<(bl l a t k).1/\(bl l a t k).2∈a/\(bl l a t k).1∈gw l t (bl l a t k).2/\∀ r∈a,∀ m∈gw l t r,m<k->m<=(bl l a t k).1/\(m=(bl l a t k).1->(bl l a t k).2<=r)):=by
  intro k
  induction k with
  | zero=>intro _;exact .inl ⟨rfl,rfl,fun r _ m _ h=>by omega⟩
  | succ k ih =>
   intro hk;have ih:=ih (by omega)
   have hl:=znX (l:=l) (a:=a) (t:=t) (k:=k) (by omega)
   simp only [bl];split
   ·rename_i h;rcases hl with ⟨h1,_⟩|⟨h1,h2,h3⟩
    ·omega
    ·exact .inr ⟨h.1,h1,h2,fun r hr m hm hmk=>⟨by simp only;omega,fun e=>h3 r hr (by simp only at e;rw [<- e];exact hm)⟩⟩
   ·rename_i h;have hno:0<k->∀ r∈a,¬ k∈gw l t r:=fun h0 r hr hm=>h ⟨h0,(zo5 ha hl).2 ⟨r,hr,hm⟩⟩;rcases ih with ⟨h1,h2,h3⟩|⟨h1,h2,h3,h4⟩
    ·refine .inl ⟨h1,h2,fun r hr m hm hmk=>?_⟩;rcases zAm m k with hmk|hmk
     ·exact h3 r hr m hm hmk
     ·obtain rfl:m=k:=by omega
      rcases zBi m with h0|h0
      ·exact h0
      ·exact absurd hm (hno h0 r hr)
    ·refine .inr ⟨h1,h2,h3,fun r hr m hm hmk=>?_⟩;rcases zAm m k with hmk|hmk
     ·exact h4 r hr m hm hmk
     ·obtain rfl:m=k:=by omega
      rcases zBi m with h0|h0
      ·subst h0;exact ⟨zAY _,fun e=>by omega⟩
      ·exact absurd hm (hno h0 r hr)
 refine zqt ?_ (znW l a t);rcases key (t.length+1) (zAQ _) with ⟨h1,h2,h3⟩|⟨h1,h2,h3,h4⟩
 ·exact .inl ⟨h1,h2,fun r hr m hm=>h3 r hr m hm (by have:=znT hm;omega)⟩
 ·exact .inr ⟨h1,h2,h3,fun r hr m hm=>h4 r hr m hm (by have:=znT hm;omega)⟩
end Go.Proofs.YtlnijcffanjieaaGreatDoor
namespace Go.Proofs.YtlnijcffanjieaaGreatDoor
set_option maxRecDepth 10000
open Go Go.Vm
theorem c27:Tryz.prog.cellsOf 27=10:=by kernel_rfl
theorem c24:Tryz.prog.cellsOf 24=4:=by kernel_rfl
theorem c22:Tryz.prog.cellsOf 22=1:=by kernel_rfl
theorem c25:Tryz.prog.cellsOf 25=1:=by kernel_rfl
theorem c28:Tryz.prog.cellsOf 28=1:=by kernel_rfl
theorem c34:Tryz.prog.cellsOf 34=1:=by kernel_rfl
theorem c47:Tryz.prog.cellsOf 47=31:=by kernel_rfl
theorem c9:Tryz.prog.cellsOf 9=1:=by kernel_rfl
theorem c3':Tryz.prog.cellsOf 3=1:=by kernel_rfl
theorem c5':Tryz.prog.cellsOf 5=1:=by kernel_rfl
theorem zr5 (cs:List V):yV Tryz.prog 27 cs=.agg cs:=by
 have:zae Tryz.prog 27=true:=by kernel_rfl
 simp only [yV,this,if_true]
theorem zr6 (x:V):yV Tryz.prog 34 [x]=x:=by
 have:zae Tryz.prog 34=false:=by kernel_rfl
 simp only [yV,this,zAD,if_false];rfl
theorem mk5 (x:V):yV Tryz.prog 5 [x]=x:=by
 have:zae Tryz.prog 5=false:=by kernel_rfl
 simp only [yV,this,zAD,if_false];rfl
theorem ze9 {n:Nat} {xs:List V} (h:jo Tryz.prog n 3 xs):∃ z,xs=[.int .i64 z]:=by
 cases n with
 | zero=>exact h.elim
 | succ n =>
  simp only [jo,Tryz.underlying3] at h;obtain ⟨z,h,_⟩:=h;exact ⟨z,h⟩
theorem zqv {n:Nat} {xs:List V} (h:jo Tryz.prog n 5 xs):∃ z:Nat,xs=[.int .u8 z]/\z<256:=by
 cases n with
 | zero=>exact h.elim
 | succ n =>
  simp only [jo,Tryz.underlying5] at h;obtain ⟨z,h,hw⟩:=h;have h1:0<=z/\z<256:=by
   simp [Lit.wf,IntKind.min,IntKind.max,IntKind.signed,IntKind.bits] at hw;omega
  exact ⟨z.toNat,by rw [h,Int.toNat_of_nonneg h1.1],by omega⟩
theorem zdU {n:Nat} {xs:List V} (h:jo Tryz.prog n 22 xs):∃ z,xs=[.int .u64 z]/\r64 z:=by
 cases n with
 | zero=>exact h.elim
 | succ n =>
  simp only [jo,Tryz.underlying22] at h;obtain ⟨z,h,hw⟩:=h;refine ⟨z,h,?_⟩;simp [Lit.wf,IntKind.min,IntKind.max,IntKind.signed,IntKind.bits] at hw;unfold r64;omega
theorem zqw {n:Nat} {xs:List V} (h:jo Tryz.prog n 9 xs):∃ s,xs=[.str s]/\(∀ b∈s,b<256)/\s.length<=maxLen:=by
 cases n with
 | zero=>exact h.elim
 | succ n =>
  simp only [jo,Tryz.underlying9] at h;exact h
theorem zo6 {n:Nat} {xs:List V} (h:jo Tryz.prog n 24 xs):∃ a b c d,xs=[.int .u64 a,.int .u64 b,.int .u64 c,.int .u64 d]/\RgS (a,b,c,d):=by
 cases n with
 | zero=>exact h.elim
 | succ n =>
  simp only [jo,Tryz.underlying24,c24,c22] at h;obtain ⟨hl,h⟩:=h
  match xs,hl with
  | [x,y,z,w],_ =>
   obtain ⟨a,ha,ra⟩:=zdU (h 0 (by omega))
   obtain ⟨b,hb,rb⟩:=zdU (h 1 (by omega))
   obtain ⟨c,hc,rc⟩:=zdU (h 2 (by omega))
   obtain ⟨d,hd,rd⟩:=zdU (h 3 (by omega))
   simp at ha hb hc hd;exact ⟨a,b,c,d,by rw [ha,hb,hc,hd],ra,rb,rc,rd⟩
theorem encs_ex:∀ (ys:List V),(∀ y∈ys,∃ e,enc e=y/\GdE e/\Rg e)->∃ l,encs l=ys/\Wfs l/\Cans l/\Rgs l
 | [],_=>⟨[],rfl,trivial,trivial,trivial⟩
 | y::ys,h=>by
  obtain ⟨e,h1,h2,h5⟩:=h y zAN;obtain ⟨l,h3,h4,h6,h7⟩:=encs_ex ys fun z hz=>h z (zAE _ hz);exact ⟨e::l,by simp [encs,h1,h3],⟨h2.1,h4⟩,⟨h2.2,h6⟩,h5,h7⟩
theorem zcI {α:Type} {h:α->V} {Q:α->Prop}:∀ (ys:List V),(∀ y∈ys,∃ a,h a=y/\Q a)->∃ l:List α,l.map h=ys/\∀ a∈l,Q a
 | [],_=>⟨[],rfl,fun _ h=>by simp at h⟩
 | y::ys,hy=>by
  obtain ⟨a,h1,h2⟩:=hy y (zAN ..);obtain ⟨l,h3,h4⟩:=zcI ys fun z hz=>hy z (zAE _ hz);refine ⟨a::l,by simp [h1,h3],fun b hb=>?_⟩
  rcases zAM.1 hb with rfl|hb
  ·exact h2
  ·exact h4 b hb
mutual
theorem typedE:∀ (n:Nat) (xs:List V),jo Tryz.prog n 27 xs->∃ e,enc e=.agg xs/\GdE e/\Rg e
 | 0,_,h=>h.elim
 | n+1,xs,h=>by
  simp only [jo,Tryz.underlying27,c27] at h;obtain ⟨hl,h⟩:=h;have f0:=h ⟨ "Op",3,0,false,"","",0⟩ (by simp)
  have f1:=h ⟨ "At",3,1,false,"","",8⟩ (by simp)
  have f2:=h ⟨ "Set",24,2,false,"","",16⟩ (by simp)
  have f3:=h ⟨ "Text",9,6,false,"","",48⟩ (by simp)
  have f4:=h ⟨ "Min",3,7,false,"","",64⟩ (by simp)
  have f5:=h ⟨ "Max",3,8,false,"","",72⟩ (by simp)
  have f6:=h ⟨ "Args",25,9,false,"","",80⟩ (by simp)
  clear h;simp only [c3',c24,c9,c25] at f0 f1 f2 f3 f4 f5 f6
  match xs,hl with
  | [x0,x1,x2,x3,x4,x5,x6,x7,x8,x9],_ =>
   simp only [List.drop_succ_cons,zBg,List.take_succ_cons,List.take_zero] at f0 f1 f2 f3 f4 f5 f6;obtain ⟨op,h0⟩:=ze9 f0;obtain ⟨pl,h1⟩:=ze9 f1;obtain ⟨a,b,c,d,h2,hr⟩:=zo6 f2;obtain ⟨s,h3,_,hs⟩:=zqw f3;obtain ⟨mn,h4⟩:=ze9 f4;obtain ⟨mx,h5⟩:=ze9 f5;obtain ⟨nl,l,h6,h7,h8,h9,h10,h11⟩:=typedL n x9 f6;simp only [zAw,zBR] at h0 h1 h2 h3 h4 h5;obtain ⟨rfl,rfl,rfl,rfl⟩:=h2;subst h0 h1 h3 h4 h5 h6
   exact ⟨.mk op pl a b c d s mn mx nl l,rfl,⟨⟨hs,h7,h8⟩,h11,h9⟩,hr,h10⟩
theorem typedL:∀ (n:Nat) (v:V),jo Tryz.prog n 25 [v]->∃ nl l,v=jM nl (encs l)/\l.length<=maxLen/\Wfs l/\Cans l/\Rgs l/\(nl=true->l=[])
 | 0,_,h=>h.elim
 | n+1,v,h=>by
  simp only [jo,Tryz.underlying25,c27] at h;rcases h with h|⟨ys,h,⟨hl,_⟩,hy⟩
  ·simp only [zAw,zBR] at h;exact ⟨true,[],by rw [h];rfl,by simp,trivial,trivial,trivial,fun _=>rfl⟩
  ·simp only [zAw,zBR] at h;obtain ⟨l,h1,h2,h3,h4⟩:=encs_ex ys fun y hyy=>by
    obtain ⟨cs,g1,g2⟩:=hy y hyy;rw [zr5] at g2;rw [g2];exact typedE n cs g1
   subst h1;rw [encs_length] at hl;exact ⟨false,l,by rw [h];rfl,hl,h2,h3,h4,fun h=>by cases h⟩
end
abbrev Tx:=Bool×List Nat
def txV (p:Tx):V:=qP p.1 p.2
def zhb (nl:Bool) (l:List Tx):V:=Sx.lv 1 nl (l.map txV)
def zlZ (p:Tx):Prop:=p.2.length<=maxLen/\∀ b∈p.2,b<256
theorem zo7 {n:Nat} {xs:List V} (h:jo Tryz.prog n 34 xs):∃ p:Tx,xs=[txV p]/\zlZ p:=by
 cases n with
 | zero=>exact h.elim
 | succ n =>
  simp only [jo,Tryz.underlying34,c5'] at h;rcases h with h|⟨ys,h,⟨hl,_⟩,hy⟩
  ·exact ⟨(true,[]),h,by simp [zlZ]⟩
  ·obtain ⟨l,h1,h2⟩:=zcI (h:=fun b:Nat=>V.int .u8 (b:Nat)) (Q:=fun b=>b<256) ys fun y hyy=>by
    obtain ⟨ds,g1,g2⟩:=hy y hyy;obtain ⟨z,g3,g4⟩:=zqv g1;rw [g3,mk5] at g2;exact ⟨z,g2.symm,g4⟩
   subst h1;rw [zAj] at hl;exact ⟨(false,l),h,hl,h2⟩
theorem zo8 {n:Nat} {v:V} (h:jo Tryz.prog n 28 [v]):∃ nl l,v=zhb nl l/\l.length<=maxLen/\∀ p∈l,zlZ p:=by
 cases n with
 | zero=>exact h.elim
 | succ n =>
  simp only [jo,Tryz.underlying28,c34] at h;rcases h with h|⟨ys,h,⟨hl,_⟩,hy⟩
  ·simp only [zAw,zBR] at h;exact ⟨true,[],by rw [h];rfl,by simp,by simp⟩
  ·simp only [zAw,zBR] at h;obtain ⟨l,h1,h2⟩:=zcI (h:=txV) (Q:=zlZ) ys fun y hyy=>by
    obtain ⟨cs,g1,g2⟩:=hy y hyy;obtain ⟨p,g3,g4⟩:=zo7 g1;rw [g3,zr6] at g2;exact ⟨p,g2.symm,g4⟩
   subst h1;rw [zAj] at hl;exact ⟨false,l,by rw [h];rfl,hl,h2⟩
end Go.Proofs.YtlnijcffanjieaaGreatDoor
namespace Go.Proofs.YtlnijcffanjieaaGreatDoor
set_option maxRecDepth 10000
open Go Go.Vm Go.Vm.Sx
abbrev P23:=(Bool×List Co)×(Bool×List Int)×(Bool×List Nat)
def zfa (p:P23):List V:=[jA p.1.1 p.1.2,qV p.2.1.1 p.2.1.2,qP p.2.2.1 p.2.2.2]
structure Q23 (p:P23):Prop where
 c:∀ c∈p.1.2,GdC c
 l:p.1.2.length<2 ^ 60
 a:p.2.1.2.length * 8<=140737488355328
 t:∀ b∈p.2.2.2,b<256
theorem map_encC:∀ {l l':List Co},(∀ c∈l,zdF c)->(∀ c∈l',zdF c)->l.map wk=l'.map wk->l=l'
 | [],[],_,_,_=>rfl
 | [],_::_,_,_,h=>by simp at h
 | _::_,[],_,_,h=>by simp at h
 | c::l,c'::l',h1,h2,h=>by
  simp only [zAW,zAw] at h;rw [ziE (h1 c (zAN ..)) (h2 c' (zAN ..)) h.1,map_encC (fun x hx=>h1 x (zAE _ hx)) (fun x hx=>h2 x (zAE _ hx)) h.2]
theorem intI_inj:∀ {a b:List Int},kj a=kj b->a=b
 | [],[],_=>rfl
 | [],_::_,h=>by simp [kj] at h
 | _::_,[],h=>by simp [kj] at h
 | x::a,y::b,h=>by
  simp only [kj,zAW,zAw,V.int.injEq,zAa] at h;rw [h.1,intI_inj h.2]
theorem ziN {p q:P23} (hp:Q23 p) (hq:Q23 q) (h:zfa p=zfa q):p.1.2=q.1.2/\p.2.1.2=q.2.1.2/\p.2.2.2=q.2.2.2:=by
 simp only [zfa,zAw,zBR] at h;have h1:=congrArg vL h.1;have h2:=congrArg vL h.2.1;rw [yu,yu] at h1;rw [jX,jX] at h2;have hcan:∀ {p:P23},Q23 p->∀ c∈p.1.2,zdF c:=fun hp c hc=>⟨(hp.c c hc).1.1.2,(hp.c c hc).2.1.2⟩;exact ⟨map_encC (hcan hp) (hcan hq) h1,intI_inj h2,zkO h.2.2⟩
def F23 (p:P23):V:=zfo p.1.2 p.2.1.2 p.2.2.2
def F24 (p:P23):V:=zfn p.1.2 p.2.1.2 p.2.2.2
theorem i23:∀ p q,Q23 p->Q23 q->zfa p=zfa q->F23 p=F23 q:=fun p q hp hq h=>by
 obtain ⟨h1,h2,h3⟩:=ziN hp hq h;simp only [F23,h1,h2,h3]
theorem i24:∀ p q,Q23 p->Q23 q->zfa p=zfa q->F24 p=F24 q:=fun p q hp hq h=>by
 obtain ⟨h1,h2,h3⟩:=ziN hp hq h;simp only [F24,h1,h2,h3]
noncomputable def gl2:Gl:={ g:=glw,hk:=fun f args=>if Nat.beq f 23 then hkX zfa Q23 F23 args else if Nat.beq f 24 then hkX zfa Q23 F24 args else if Nat.beq f 12 then (match args with|[]=>some (.bool true)|_=>none) else if Nat.beq f 14 then hkX zjy Q14 (fun p=>zcC p.1 p.2.2) args else none }
theorem znY {α:Type} {f:α->Nat}:∀ {l:List α} {x:α},x∈l->f x<=(l.map f).sum
 | y::l,x,h=>by
  simp only [zAW,List.sum_cons];rcases zAM.1 h with rfl|h
  ·omega
  ·have:=znY (f:=f) h;omega
theorem zkS (l:List Co) (a:List Int) (t:List Nat):∃ n,Fuel l a t n :=
 ⟨a.length+l.length+6+(l.map fun c=>2 * YtlnijcffanjieaaGreatDoor.hg (qY c)+t.length+2).sum,⟨by omega,fun c hc=>by have:=znY (f:=fun c=>2 * YtlnijcffanjieaaGreatDoor.hg (qY c)+t.length+2) hc;omega⟩⟩
theorem ziO (p:P23):tops (zfa p)=0:=by simp [zfa,tops,ze0,ziD,zau]
theorem ziP (l:List Co) (a:List Int) (t:List Nat):(zfo l a t).top=0:=by unfold zfo;split<;>rfl
theorem ziQ (l:List Co) (a:List Int) (t:List Nat):(zfn l a t).top=0:=by unfold zfn;split<;>rfl
theorem hk2':HkOk Tryz.prog gl2:=by
 refine ⟨fun f args v h d H g w cargs lc h1 h2 h3=>?_,fun n f args H out H' h=>(by cases h),fun _ _ _ _ h=>(by cases h)⟩
 simp only [gl2] at h;split at h
 ·rename_i hf;obtain rfl:f=23:=zAO hf;obtain ⟨p,hq,rfl,rfl⟩:=wy h;obtain ⟨n,hn⟩:=zkS p.1.2 p.2.1.2 p.2.2.2;obtain ⟨H',hc⟩:=e23 (nl:=p.1.1) (al:=p.2.1.1) (tl:=p.2.2.1) hn hq.a hq.l hq.c hq.t;exact wP mixed numOk primOk hkM hc (ziO p) (ziP ..) h1 h2 h3
 ·split at h
  ·rename_i hf;obtain rfl:f=24:=zAO hf;obtain ⟨p,hq,rfl,rfl⟩:=wy h;obtain ⟨n,hn⟩:=zkS p.1.2 p.2.1.2 p.2.2.2;obtain ⟨H',hc⟩:=e24 (nl:=p.1.1) (al:=p.2.1.1) (tl:=p.2.2.1) hn hq.a hq.l hq.c hq.t;exact wP mixed numOk primOk hkM hc (ziO p) (ziQ ..) h1 h2 h3
  ·split at h
   ·rename_i hf;obtain rfl:f=12:=zAO hf;split at h
    ·cases h;exact ok3.pure 12 [] (.bool true) rfl d H g w cargs lc h1 h2 h3
    ·cases h
   ·split at h
    ·rename_i hf;obtain rfl:f=14:=zAO hf;obtain ⟨⟨e,nl,t⟩,hq,rfl,rfl⟩:=wy h;obtain ⟨H',hc⟩:=e14 GWb (nl:=nl) hq.1.1 hq.1.2 hq.2.1 hq.2.2 (zAQ _);exact wP mixed numOk primOk hkb hc (by simp [tops,top_enc,zau]) (zeX e t) h1 h2 h3
    ·cases h
instance : NoU gl2:=⟨fun _=>rfl,fun _ _ _ _=>rfl⟩
theorem GL2:GL gl2 where
 top:=top_glw
 no:=fun f hf args=>by
  simp only [List.any_cons,List.any_nil,zBb,zBV] at hf;simp only [gl2,hf.1,hf.2.1,hf.2.2.2.1,hf.2.2.2.2.1,zAD,if_false]
theorem fv12:Ev Tryz.prog gl2 12 [] [] (.bool true) []:=Sx.Ev.hook (xs:=[]) rfl rfl
theorem zr7 {e:E} {nl:Bool} {t:List Nat} (h:GdE e) (hr:Rg e) (ht:∀ b∈t,b<256):Ev Tryz.prog gl2 14 [.d (enc e),.d (qP nl t)] [] (zcC e t) [] :=
 Sx.Ev.hook (xs:=[enc e,qP nl t]) (show gl2.hk 14 _=_ from zav (en:=zjy) (F:=fun p=>zcC p.1 p.2.2) (a:=(e,nl,t)) i14 ⟨h,hr,ht⟩) (zeX e t)
theorem zr8 {nl al tl:Bool} {l:List Co} {a:List Int} {t:List Nat} (h:Q23 ((nl,l),(al,a),(tl,t))):Ev Tryz.prog gl2 23 [.d (jA nl l),.d (qV al a),.d (qP tl t)] [] (zfo l a t) [] :=
 Sx.Ev.hook (xs:=[jA nl l,qV al a,qP tl t]) (show gl2.hk 23 _=_ from zav (a:=((nl,l),(al,a),(tl,t))) i23 h) (ziP ..)
theorem zr9 {nl al tl:Bool} {l:List Co} {a:List Int} {t:List Nat} (h:Q23 ((nl,l),(al,a),(tl,t))):Ev Tryz.prog gl2 24 [.d (jA nl l),.d (qV al a),.d (qP tl t)] [] (zfn l a t) [] :=
 Sx.Ev.hook (xs:=[jA nl l,qV al a,qP tl t]) (show gl2.hk 24 _=_ from zav (a:=((nl,l),(al,a),(tl,t))) i24 h) (ziQ ..)
def zhc (nl:Bool) (l:List Co) (al:Bool) (a:List Int) (xn:Bool) (x:List Tx):V:=.agg [jA nl l,qV al a,zhb xn x]
theorem lent25:wi Tryz.prog Tryz.f25.params.toList=some []:=by kernel_rfl
theorem zqx {x y:V}:vy Tryz.prog [54,34] [.d x,.d y] 0:=by
 refine ⟨fun e=>?_,fun e=>?_,trivial⟩
 ·rw [Tryz.underlying54];simp
 ·rw [Tryz.underlying34];simp
theorem ziR (nl:Bool) (l:List Tx):kOk (.sl 1) (zhb nl l)=true:=znh ..
theorem zhd (nl:Bool) (l:List Tx):vL (zhb nl l)=l.map txV:=zig ..
theorem zo9 (nl:Bool) (l:List Tx):clr (zhb nl l)=zhb nl l:=clr_lv ..
theorem tops_tx:∀ l:List Tx,tops (l.map txV)=0
 | []=>rfl
 | a::l=>by simp only [zAW,tops];rw [tops_tx l];simp [txV,zau]
theorem zpa (nl:Bool) (l:List Tx):(zhb nl l).top=0:=by unfold zhb;rw [zeF];exact tops_tx l
theorem zkT (nl:Bool) (l:List Co) (al:Bool) (a:List Int) (xn:Bool) (x:List Tx):(zhc nl l al a xn x).top=0:=by simp [zhc,V.top,tops,ze0,ziD,zpa]
theorem zpb {e:E} {t:List Nat} (h:okP e t=true):zcC e t=.tup [nvL (kR e t),.nili]:=by simp only [zcC,h,if_true,zg5]
theorem kIfc:kOk .ifc .nili=true:=rfl
theorem znZ {c:Co} (hg:GdC c):GdE (qY c)/\Rg (qY c):=by
 obtain ⟨⟨g1,r1⟩,g2,r2⟩:=hg;have:=ml9;unfold qY;cases c.ht with
 | false=>simp;exact ⟨g1,r1⟩
 | true=>simp;exact ⟨⟨⟨by simp,by simp;omega,g1.1,g2.1,trivial⟩,⟨by simp,g1.2,g2.2,trivial⟩⟩,⟨by decide,r1,r2,trivial⟩⟩
theorem zsa {nl al xn tl:Bool} {l:List Co} {a:List Int} {x:List Tx} {t:List Nat} (ha:a.length<=maxLen) (hok:∀ r∈a,∃ (j:Nat) (c:Co),r=(j:Int)/\l[j]?=some c/\GdC c/\okP (qY c) t=true) (ht:∀ b∈t,b<256) (htl:t.length<=65536) :
  Ev Tryz.prog gl2 25 [.d (zhc nl l al a xn x),.d (qP tl t)] [] (.int .i64 (zha l a t)) []:=by
 have hgl:=GL2;have hml:=maxLen_le;refine kx (xs:=[zhc nl l al a xn x,qP tl t]) hgl.top (hgl.no 25 rfl) tree25_ok Tryz.func25 lent25 zqx (by simp [tops,zkT,zau]) (N:=a.length+1) ?_
 simp only [tree25,zhc];simp only [ev_opn,qj,vV,qF,qO,qg,ks_nil,zAd,qG,zC,zJ,evI,zA,evC,zf0,ze1,ziR,zeV];refine xY (st:=fun i=>[.int .i64 ((a.take i).foldl (zax l t) (-1)),.int .i64 (i:Int)]) (m:=a.length) (fun i hi=>?_) ?_ (by omega)
 ·obtain ⟨r,hr⟩:∃ r,a[i]?=some r:=⟨a[i],by simp [hi]⟩
  obtain ⟨j,c,rfl,hj,hg,hP⟩:=hok r (zAg hr);obtain ⟨w1,w2⟩:=znZ hg;have h1:=zdv hi;have h2:=zcF hr;have h3:=zg8 hj;have h4:=zir (i:=i) (by omega)
  have htk:(a.take (i+1)).foldl (zax l t) (-1)=zax l t ((a.take i).foldl (zax l t) (-1)) (j:Int):=by
   rw [List.take_add_one,hr,List.foldl_append];rfl
  rw [htk];obtain ⟨out,hout⟩:∃ out,out=(a.take i).foldl (zax l t) (-1):=⟨_,rfl⟩;rw [<- hout];have hgw:gw l t (j:Int)=kR (qY c) t:=by simp only [gw,zAs,hj]
  simp only [zax,hgw];have d14:=wI (zr7 (nl:=tl) w1 w2 ht);rw [zpb hP] at d14;have hg1:=ze4 (qY c) t;have d15:=wI (zrZ hgl (kR (qY c) t) t.length (by have h9:65538<=maxLen:=(by decide);omega))
  obtain ⟨L,hL⟩:∃ L,L=kR (qY c) t:=⟨_,rfl⟩;rw [<- hL] at d14 d15 ⊢;have z0:(lez 0 (j:Int))=true:=zdu (by omega)
  have z1:ltz (j:Int) 0=false:=zaC (by omega)
  have hf:∀ l,jM false l=.sl 10 l .no:=fun _=>rfl;have ho1:decide (out<0)=ltz out 0:=rfl;have ho2:decide ((j:Int)<out)=ltz (j:Int) out:=rfl;rw [ho1,ho2];clear hout htk hok hr hj hgw hg1 hP w1 w2 hL;obtain ⟨⟨op,pl,s0,s1,s2,s3,text,mn,mx,nl',args⟩,hht,⟨op',pl',s0',s1',s2',s3',text',mn',mx',nl'',args'⟩⟩:=c
  have d19:=wI (zr0 hgl [.mk op pl s0 s1 s2 s3 text mn mx nl' args,.mk op' pl' s0' s1' s2' s3' text' mn' mx' nl'' args']);simp only [wk,qt,ecells,zAV,zAT] at h3;cases hht with
  | true =>
   simp only [qY,if_true,zjw,enc,encs,hf] at d14 d19;simp only [lp25_1];simp only [jV,qf,jR,ev_opn,ev_unt,qj,qA,qF,qO,qg,ki,yD,kL,kSl,ks_nil,zAd,qG,wL,zC,zJ,evB,evI,evL,zA,evC,zH,kG,evA,qp,jP,zY,jF,qS,wF,joinL,sizesOk,zq,qN,kn,yu,jX,h1,h2,h3,d14,d19,znG,kIfc,yq,jN,qI,zAs,vD,z1];rw [jV (by rfl)]
   cases hc:L.contains t.length with
   | false=>simp only [ky,zZ,qj,qA,qF,qO,kL,ks_nil,zAd,zBu,qG,zC,zJ,evB,evI,evL,zA,evC,zH,kG,evA,qp,zY,jF,qS,biI,joinL,sizesOk,kY,h4,d15,hc,xx,zAj,zAD,if_false]
   | true =>
    cases ho:ltz out 0 with
    | true=>simp only [jV,ky,zZ,jR,qj,qA,qF,qO,ki,kL,ks_nil,zAd,zBk,zBs,zAo,qG,wL,zC,zJ,evB,evI,evL,zA,evC,zH,kG,evA,qp,zY,jF,qS,biI,wF,joinL,sizesOk,zq,jX,kY,h2,h4,d15,hc,ho,xx,zAj,zAs,if_true,wF]
    | false =>
     cases hr:ltz (j:Int) out with
     | true=>simp only [jV,zZ,jR,qj,qA,qF,qO,ki,kL,ks_nil,zAd,zBw,zAy,qG,wL,zC,zJ,evB,evI,evL,zA,evC,zH,kG,evA,qp,zY,jF,qS,biI,wF,joinL,sizesOk,zq,jX,kY,h2,h4,d15,hc,ho,hr,xx,zAj,zAs,if_true]
     | false=>simp only [jV,ky,zZ,jR,qj,qA,qF,qO,ki,kL,ks_nil,zAd,zBk,zBb,zAy,qG,wL,zC,zJ,evB,evI,evL,zA,evC,zH,kG,evA,qp,zY,jF,qS,biI,wF,joinL,sizesOk,jX,kY,h2,h4,d15,hc,ho,hr,xx,zAj,zAs,zAD,if_false]
  | false =>
   simp only [qY,zAD,if_false,enc] at d14;simp only [lp25_1];simp only [jV,ky,jR,ev_opn,ev_unt,qj,qA,qF,qO,qg,ki,yD,kL,ks_nil,zAd,qG,wL,zC,zJ,evB,evI,evL,zA,evC,zH,kG,evA,qp,zY,jF,qS,wF,joinL,sizesOk,zq,qN,yu,jX,h1,h2,h3,d14,znG,kIfc,yq,jN,qI,zAs,vD,z1];rw [jV (by rfl)]
   cases hc:L.contains t.length with
   | false=>simp only [ky,zZ,qj,qA,qF,qO,kL,ks_nil,zAd,zBu,qG,zC,zJ,evB,evI,evL,zA,evC,zH,kG,evA,qp,zY,jF,qS,biI,joinL,sizesOk,kY,h4,d15,hc,xx,zAj,zAD,if_false]
   | true =>
    cases ho:ltz out 0 with
    | true=>simp only [jV,ky,zZ,jR,qj,qA,qF,qO,ki,kL,ks_nil,zAd,zBk,zBs,zAo,qG,wL,zC,zJ,evB,evI,evL,zA,evC,zH,kG,evA,qp,zY,jF,qS,biI,wF,joinL,sizesOk,zq,jX,kY,h2,h4,d15,hc,ho,xx,zAj,zAs,if_true,wF]
    | false =>
     cases hr:ltz (j:Int) out with
     | true=>simp only [jV,zZ,jR,qj,qA,qF,qO,ki,kL,ks_nil,zAd,zBw,zAy,qG,wL,zC,zJ,evB,evI,evL,zA,evC,zH,kG,evA,qp,zY,jF,qS,biI,wF,joinL,sizesOk,zq,jX,kY,h2,h4,d15,hc,ho,hr,xx,zAj,zAs,if_true]
     | false=>simp only [jV,ky,zZ,jR,qj,qA,qF,qO,ki,kL,ks_nil,zAd,zBk,zBb,zAy,qG,wL,zC,zJ,evB,evI,evL,zA,evC,zH,kG,evA,qp,zY,jF,qS,biI,wF,joinL,sizesOk,jX,kY,h2,h4,d15,hc,ho,hr,xx,zAj,zAs,zAD,if_false]
 ·have h1:=zfR (zAQ a.length);simp only [lp25_1,zBd,zha];simp only [ky,zZ,ev_esc,qf,qF,qO,zC,zJ,evB,evI,evL,zA,evC,zH,jP,zY,qS,zq,jX,h1,vD]
end Go.Proofs.YtlnijcffanjieaaGreatDoor
namespace Go.Proofs.YtlnijcffanjieaaGreatDoor
set_option maxRecDepth 10000
open Go Go.Vm Go.Vm.Sx
theorem sm_sum:∀ (l:List Co) (n:Int),(∀ c∈l,Wf c.hd/\Wf c.tl)->0<=n->n+20000000000 * (l.length:Int)<=4611686018427387904->n<=l.foldl smS n/\∀ c∈l,n+sizeM c.hd 0+sizeM c.tl 0<=l.foldl smS n
 | [],n,_,_,_=>⟨Int.le_refl _,by simp⟩
 | c::l,n,hw,h0,hn=>by
  obtain ⟨w1,w2⟩:=hw c (zAN ..);have p1:=zcD w1;have p2:=zcD w2;have hB:Bd 0=5246025728:=by decide
  rw [hB] at p1 p2;simp only [zAS] at hn;have e:smS n c=n+sizeM c.hd 0+sizeM c.tl 0:=by
   unfold smS;rw [w64 (x:=n+sizeM c.hd 0) (by omega) (by omega),w64 (by omega) (by omega)]
  have ih:=sm_sum l (smS n c) (fun x hx=>hw x (zAE _ hx)) (by omega) (by omega)
  simp only [List.foldl_cons];refine ⟨by omega,fun x hx=>?_⟩
  rcases zAM.1 hx with rfl|hx
  ·omega
  ·have:=ih.2 x hx;omega
theorem ziS {l:List Co} (hs:zg9 l=true) (hl:l.length<=200) (hw:∀ c∈l,Wf c.hd/\Wf c.tl) {c:Co} (hc:c∈l) (hg:GdC c) (hk:zab c=true):vC (qY c)=true:=by
 have h1:=(sm_sum l 0 hw (Int.le_refl _) (by omega)).2 c hc
 have h2:=lez_i.1 hs;obtain ⟨w1,w2⟩:=hw c hc;have p1:=zcD w1;have p2:=zcD w2;have n1:=zeY w1 (by omega)
 have n2:=zeY w2 (by omega)
 have hcor:=(ze5 hg hk).1;cases hh:c.ht with
 | false =>
  simp only [zab,hh,zAF] at hk;simp only [qY,hh,zAD,if_false];exact hk.1
 | true =>
  refine zqm hcor ?_;simp only [qY,hh,if_true,zjw,nodes,nodesF];omega
theorem lent5:wi Tryz.prog Tryz.f5.params.toList=some []:=by kernel_rfl
theorem zrq {x:V}:vy Tryz.prog [54] [.d x] 0:=by
 refine ⟨fun e=>?_,trivial⟩;rw [Tryz.underlying54];simp
theorem zpc {l:List Tx} {i:Nat} {p:Tx} (h:l[i]?=some p):nth (l.map txV) i=some (qP p.1 p.2):=by rw [zw,zAp,h];rfl
theorem kErA:kOk .ifc erA=true:=rfl
theorem zkU {t:List Nat} (h:∀ b∈t,b<256) (n:Nat):∀ b∈t.take n,b<256:=fun b hb=>h b (zBE hb)
theorem zpd {t:List Nat} (h:∀ b∈t,b<256):∀ b∈zeW t,b<256:=by
 unfold zeW;split
 ·exact zkU h 40
 ·exact h
theorem zn0 {l:List Co} {a:List Int} {t t':Nat} (h:xc l a t=true) (ht:t'<=t):xc l a t'=true:=by
 simp only [xc,zAF,decide_eq_true_eq] at h ⊢;exact ⟨⟨⟨by omega,h.1.1.2⟩,h.1.2⟩,h.2⟩
theorem zpA {l:List Co} {r:Int} (h:y9 l r=false):ltz r 0=false/\lez (l.length:Int) r=false/\0<=r:=by
 simp only [y9,zBV,decide_eq_false_iff_not] at h;exact ⟨zaC (by omega),zkt (by omega),by omega⟩
theorem zsb {x:Option (Nat×List V)} {j:Nat} {vs:List V}:x=some (j,vs)->(match x with|some (j,vs)=>some (j+1,vs)|none=>none)=some (j+1,vs):=fun h=>by subst h;rfl
theorem ev5 {nl al xn:Bool} {l:List Co} {a:List Int} {x:List Tx} (hl:l.length<=maxLen) (hl2:l.length<2 ^ 60) (ha:a.length<=maxLen) (ha2:a.length * 8<=140737488355328) (hc:∀ c∈l,GdC c) (hx:x.length<=maxLen) (htx:∀ p∈x,zlZ p) :
  Ev Tryz.prog gl2 5 [.d (zhc nl l al a xn x)] [] (.bool true) []:=by
 have hgl:=GL2;have hml:=maxLen_le;have hmg:65538<=maxLen:=by decide
 have z0:lez 0 0=true:=by decide
 have hw:∀ c∈l,Wf c.hd/\Wf c.tl:=fun c h=>⟨(hc c h).1.1.1,(hc c h).2.1.1⟩;refine kx (xs:=[zhc nl l al a xn x]) hgl.top (hgl.no 5 rfl) tree5_ok Tryz.func5 lent5 zrq (by simp [tops,zkT]) (N:=a.length+x.length+60) ?_
 have c22:=wI (zr3 hgl (hgl.no 22 rfl) nl l hl hw);have c12:=wI fv12;simp only [tree5,zhc];cases hs:zg9 l with
 | false=>simp only [jV,zZ,qf,ev_opn,qj,qA,qF,qO,qg,kL,ks_nil,zAd,zBs,zAy,qG,zC,zJ,evB,evI,evL,zA,evC,zH,kG,evA,qp,jP,jF,kV,joinL,sizesOk,zf0,yu,kh,ze1,jX,ziR,c22,c12,hs]
 | true =>
 cases h2:ltz 200 (l.length:Int) with
 | true=>simp only [jV,zZ,qf,ev_opn,qj,qA,qF,qO,qg,kL,ks_nil,zAd,zBw,zBs,zAo,qG,zC,zJ,evB,evI,evL,zA,evC,zH,kG,evA,qp,jP,jF,kV,joinL,sizesOk,zf0,yu,kh,ze1,jX,ziR,c22,c12,hs,h2,zAj]
 | false =>
 cases h6:ltz 60 (a.length:Int) with
 | true=>simp only [jV,zZ,qf,ev_opn,qj,qA,qF,qO,qg,kL,ks_nil,zAd,zBw,zBb,zAo,qG,zC,zJ,evB,evI,evL,zA,evC,zH,kG,evA,qp,jP,jF,kV,joinL,sizesOk,zf0,yu,kh,ze1,jX,ziR,c22,c12,hs,h2,h6,zAj,vD]
 | false =>
 simp only [ky,ev_opn,qj,qA,vV,qF,qO,qg,kL,ks_nil,zAd,zBb,zAo,qG,zC,zJ,evB,evI,evL,zA,evC,zH,kG,evA,qp,jF,kV,joinL,sizesOk,zf0,yu,kh,ze1,jX,ziR,c22,hs,h2,h6,zAj,vD];have hl200:l.length<=200:=by
  have:¬ (200:Int)<l.length:=of_decide_eq_false h2;omega
 refine zni (ok:=fun i=>!(y9 l (a.getD i 0))) (st:=fun i=>[.int .i64 (i:Int)]) (n:=a.length) (good:=[.bool true]) (bad:=[.bool true]) (fun i hi hok=>?_) (fun i hi hok=>?_) (fun hall=>?_) (by omega) ?_
 ·obtain ⟨r,hr⟩:∃ r,a[i]?=some r:=⟨a[i],by simp [hi]⟩
  have hgd:a.getD i 0=r:=by simp [List.getD,hr]
  rw [hgd] at hok;obtain ⟨o1,o2,o3⟩:=zpA (by simpa using hok)
  have h1:=zdv hi;have h3:=zcF hr;have h4:=zir (i:=i) (by omega)
  simp only [lp5_3];simp only [jV,ky,zZ,jR,qj,qF,qO,ki,zAy,wL,zC,zJ,evB,evI,evL,zA,evC,zY,qS,za2,biI,wF,yu,jX,h1,h3,h4,o1,o2,vD,zAj,zAs]
 ·obtain ⟨r,hr⟩:∃ r,a[i]?=some r:=⟨a[i],by simp [hi]⟩
  have hgd:a.getD i 0=r:=by simp [List.getD,hr]
  rw [hgd] at hok;have h1:=zdv hi;have h3:=zcF hr;simp only [lp5_3];cases o1:ltz r 0 with
  | true=>simp only [jV,ky,zZ,ev_esc,qf,jR,qj,qA,qF,qO,ki,kL,ks_nil,zAd,zAo,qG,wL,zC,zJ,evB,evI,evL,zA,evC,zH,kG,qp,jP,zY,qS,wF,joinL,sizesOk,jX,h1,h3,o1,c12,vD,zAs]
  | false =>
   have o2:lez (l.length:Int) r=true:=by
    have:¬ r<0:=of_decide_eq_false o1;simp only [y9,decide_eq_false this,zBK] at hok;exact zdu (by simpa using hok)
   simp only [jV,zZ,ev_esc,qf,jR,qj,qA,qF,qO,ki,kL,ks_nil,zAd,zAy,qG,wL,zC,zJ,evB,evI,evL,zA,evC,zH,kG,qp,jP,zY,qS,za2,wF,joinL,sizesOk,yu,jX,h1,h3,o1,o2,c12,vD,zAj,zAs]
 ·have h1:=zfR (zAQ a.length);have hon:∀ r∈a,y9 l r=false:=fun r hr=>by
   obtain ⟨i,hi,rfl⟩:=List.getElem_of_mem hr;have:=allB_iff.1 hall i hi;simpa [List.getD,hi] using this
  have hpos:∀ r∈a,0<=r:=fun r hr=>(zpA (hon r hr)).2.2;simp only [lp5_3];simp only [ky,ev_esc,vV,qF,qO,zC,zJ,evB,evI,evL,zA,evC,zY,qS,jX,h1,vD];refine zsb ?_;refine xY (st:=fun i=>[.int .i64 (i:Int)]) (m:=min x.length 4) (fun i hi=>?_) ?_ (by omega)
  ·have hil:i<x.length:=by omega
   obtain ⟨p,hp⟩:∃ p,x[i]?=some p:=⟨x[i],by simp [hil]⟩
   have hpt:=htx p (zAg hp);have h1:=zdv hil;have h1b:ltz (i:Int) 4=true:=ltz_t (by omega)
   have h3:=zpc hp;have h4:=zir (i:=i) (by omega)
   have c13:=wI (zrY hgl p.1 p.2);obtain ⟨t,ht⟩:∃ t,t=zeW p.2:=⟨_,rfl⟩;obtain ⟨nb,hnb⟩:∃ nb,nb=(p.1 && p.2.isEmpty):=⟨_,rfl⟩;rw [<- ht,<- hnb] at c13;have htb:∀ b∈t,b<256:=by rw [ht];exact zpd hpt.2
   have c23:=wI (zr8 (nl:=nl) (al:=al) (tl:=nb) (l:=l) (a:=a) (t:=t) ⟨hc,hl2,ha2,htb⟩);simp only [lp5_2];cases hmay:xc l a t.length with
   | false =>
    simp only [zfo,hmay,zAD,if_false] at c23;simp only [jV,jR,ev_unt,qj,qA,qF,qO,qg,ki,ks_nil,zAd,qG,wL,zC,zJ,evB,evI,evL,evC,zH,kG,evA,qp,zY,qS,wF,joinL,sizesOk,zhd,h1,h1b,h3,c13,c23,zeV,kErA,qI,kh,jl,zAj,zAs];rw [jV (by rfl)]
    simp only [zZ,qF,qO,evI,zA,evC,zY,biI,h4]
   | true =>
   simp only [zfo,hmay,if_true] at c23
   by_cases hlen:40<t.length
   ·have h5:ltz 40 (t.length:Int)=true:=ltz_t (by omega)
    simp only [jV,zZ,jR,ev_unt,qj,qA,qF,qO,qg,ki,ks_nil,zAd,zBw,qG,wL,zC,zJ,evB,evI,evL,zA,evC,zH,kG,evA,qp,zY,qS,kV,biI,wF,joinL,sizesOk,zhd,kY,h1,h1b,h3,h4,h5,c13,c23,zeV,kIfc,qI,kh,jl,zAj,zAs]
   ·have h5:ltz 40 (t.length:Int)=false:=zaC (by omega)
    simp only [jV,jR,ev_unt,qj,qA,qF,qO,qg,ki,ks_nil,zAd,qG,wL,zC,zJ,evB,evI,evL,evC,zH,kG,evA,qp,zY,qS,wF,joinL,sizesOk,zhd,h1,h1b,h3,c13,c23,zeV,kIfc,qI,kh,jl,zAj,zAs];refine (ky ?_).trans ?_
    ·show (false || ltz 40 ((vL (qP nb t)).length:Int))=false
     rw [kY,zAj];exact h5
    simp only [vV,evI,zA,evC];have hblE:=zqu l a t hpos;refine (congrArg (zif _ _ _ _ _) ?_).trans (xY (st:=fun k=>[.int .i64 ((bl l a t k).1:Nat),.int .i64 (bl l a t k).2,.int .i64 (k:Int)]) (m:=t.length+1) (fun k hk=>?_) ?_ (by omega))
    ·simp [bl]
    ·have hkt:k<=t.length:=by omega
     have i1:lez (k:Int) (t.length:Int)=true:=zdu (by omega)
     have i2:lez 0 (k:Int)=true:=zdu (by omega)
     have i3:=zkL nb t k;have i4:=zir (i:=k) (by omega)
     have htk:=zkU htb k;have hlk:(t.take k).length=k:=by rw [zBA];omega
     have hmk:xc l a (t.take k).length=true:=zn0 hmay (by omega)
     have c24:=wI (zr9 (nl:=nl) (al:=al) (tl:=nb && t.isEmpty) (l:=l) (a:=a) (t:=t.take k) ⟨hc,hl2,ha2,htk⟩);simp only [zfn,hmk,if_true] at c24;have hok:∀ r∈a,∃ (j:Nat) (c:Co),r=(j:Int)/\l[j]?=some c/\GdC c/\okP (qY c) (t.take k)=true:=fun r hr=>by
      obtain ⟨i',hi'⟩:=List.getElem?_of_mem ((zcH a).mem_iff.2 hr);obtain ⟨j,c,e1,e2,e3⟩:=ze6 hmay hi';have hcm:=zAg e2;refine ⟨j,c,e1,e2,hc c hcm,?_⟩;simp only [okP,ziS hs hl200 hw hcm (hc c hcm) e3,zBT,decide_eq_true_eq];omega
     have c25:=wI (zsa (nl:=nl) (al:=al) (xn:=xn) (x:=x) (tl:=nb && t.isEmpty) ha hok htk (by omega))
     rw [<- zlY l a (t.take k) hpos] at c25;simp only [zhc] at c25;obtain ⟨b,hb⟩:∃ b,b=bl l a t k:=⟨_,rfl⟩;obtain ⟨y,hy⟩:∃ y,y=ziI l a (t.take k):=⟨_,rfl⟩;simp only [bl];rw [<- hb,<- hy];rw [<- hy] at c24 c25;simp only [lp5_1];simp only [jV,zaq,qf,ev_unt,qA,qF,qO,qg,ki,ks_nil,zAd,qG,zC,zJ,evB,evI,evL,evC,zH,kG,evA,qp,jP,zY,za1,joinL,sizesOk,kY,z0,i1,i2,i3,c24,kIfc,qI,kh,jl,zAj];rw [jV (by rfl)]
     simp only [ky,zaq,qf,qj,qA,qF,qO,ki,ks_nil,zAd,zAo,qG,zC,zJ,evB,evI,evL,zA,evC,zH,kG,evA,qp,jP,zY,za1,ko,joinL,sizesOk,kY,z0,i1,i2,i3,c25,qI,kh,jl,zo9,zAj,beq_self_eq_true];have hif:(if 0<k/\0<=y then (k,y) else b)=bif ltz 0 (k:Int) && lez 0 y then (k,y) else b:=by
      by_cases q1:0<k
      ·by_cases q2:0<=y
       ·rw [if_pos ⟨q1,q2⟩,ltz_t (by omega),zdu q2];rfl
       ·rw [if_neg (fun h=>q2 h.2),zkt (by omega),zBk];rfl
      ·rw [if_neg (fun h=>q1 h.1),zaC (by omega)];rfl
     rw [hif];cases hq:ltz 0 (k:Int) && lez 0 y with
     | true=>simp only [jV,zZ,qF,qO,qG,evB,evI,zA,evC,zY,kV,za2,biI,zq,hq,i4]
     | false=>simp only [ky,zZ,qF,qO,wL,evB,evI,zA,evC,zY,kV,za2,biI,hq,i4]
    ·have i1:lez ((t.length+1:Nat):Int) (t.length:Int)=false:=zkt (by omega)
     simp only [lp5_1];rw [hblE];simp only [ky,zZ,ev_esc,qF,qO,zBb,zAo,zC,zJ,evB,evI,evL,zA,evC,zY,za1,ko,biI,kY,i1,h4,zAj,beq_self_eq_true]
  ·have h1:(ltz ((min x.length 4:Nat):Int) (x.length:Int) && ltz ((min x.length 4:Nat):Int) 4)=false:=by
    rcases zAm x.length 4 with h|h
    ·rw [show ltz ((min x.length 4:Nat):Int) (x.length:Int)=false from zaC (by omega)];rfl
    ·rw [show ltz ((min x.length 4:Nat):Int) 4=false from zaC (by omega),zBk]
   simp only [lp5_2];simp only [ky,zZ,ev_esc,qf,qj,qA,qF,qO,kL,ks_nil,zAd,qG,zC,zJ,evB,evI,evL,zA,evC,zH,kG,qp,jP,zY,qS,joinL,sizesOk,zhd,h1,c12,zAj]
 ·cases zdE (fun i=>!(y9 l (a.getD i 0))) a.length<;>rfl
end Go.Proofs.YtlnijcffanjieaaGreatDoor
namespace Go.Proofs.YtlnijcffanjieaaGreatDoor
set_option maxRecDepth 100000
open Go Go.Vm
theorem zqy {g:Gh} {xs:List V} {cs:Array Value} (h:RC g xs cs.toList):RelV g (.agg xs) (.agg cs):=by
 refine .agg (by rw [RC.length h,zBJ]) (fun j x hx=>?_) fun j x v hx hv=>?_
 ·obtain ⟨v,_,hg⟩:=h.get j x hx;exact hg.1
 ·obtain ⟨v',hv',hg⟩:=h.get j x hx;rw [zBf,hv] at hv';cases hv';exact hg.2.1
theorem zkV {g:Gh}:∀ {xs:List V} {cs:List Value},RC g xs cs->tops xs=0
 | [],[],_=>rfl
 | x::xs,v::cs,h=>by simp [tops,h.1.2.2.1,zkV h.2]
 | [],_::_,h=>h.elim
 | _::_,[],h=>h.elim
theorem c89:Tryz.prog.cellsOf 89=21:=by kernel_rfl
theorem c4':Tryz.prog.cellsOf 4=1:=by kernel_rfl
theorem c52:Tryz.prog.cellsOf 52=1:=by kernel_rfl
theorem c36:Tryz.prog.cellsOf 36=1:=by kernel_rfl
theorem c54:Tryz.prog.cellsOf 54=3:=by kernel_rfl
theorem b89:1<=Tryz.prog.bytesOf 89:=of_decide_eq_true (by kernel_rfl)
theorem b3:Tryz.prog.bytesOf 3=8:=by kernel_rfl
theorem zsc (cs:List V):yV Tryz.prog 89 cs=.agg cs:=by
 have:zae Tryz.prog 89=true:=by kernel_rfl
 simp only [yV,this,if_true]
theorem mk3 (x:V):yV Tryz.prog 3 [x]=x:=by
 have:zae Tryz.prog 3=false:=by kernel_rfl
 simp only [yV,this,zAD,if_false];rfl
theorem zqz {n:Nat} {xs:List V} (h:jo Tryz.prog n 4 xs):∃ b,xs=[.bool b]:=by
 cases n with
 | zero=>exact h.elim
 | succ n =>
  simp only [jo,Tryz.underlying4] at h;exact h
theorem zpe {n:Nat} {xs:List V} (h:jo Tryz.prog n 89 xs):∃ c,xs=qt c/\GdC c:=by
 cases n with
 | zero=>exact h.elim
 | succ n =>
  simp only [jo,Tryz.underlying89,c89] at h;obtain ⟨hl,h⟩:=h;have f0:=h ⟨ "Head",27,0,false,"","",0⟩ (by simp)
  have f1:=h ⟨ "HasTrail",4,10,false,"","",104⟩ (by simp)
  have f2:=h ⟨ "Trail",27,11,false,"","",112⟩ (by simp)
  clear h;simp only [c27,c4'] at f0 f1 f2;rw [zBg] at f0;obtain ⟨A,hA,gA⟩:=typedE n _ f0;obtain ⟨b,hb⟩:=zqz f1;obtain ⟨B,hB,gB⟩:=typedE n _ f2;rw [qJ,V.agg.injEq] at hA hB;have e1:(xs.drop 11).take 10=xs.drop 11:=zBC (by simp [hl])
  have d1:xs.drop 10=(xs.drop 10).take 1++(xs.drop 10).drop 1:=(zA7 1 _).symm;refine ⟨⟨A,b,B⟩,?_,gA,gB⟩;simp only [qt];rw [hA,hB,e1];rw [hb,List.drop_drop] at d1;rw [show V.bool b::xs.drop 11=[V.bool b]++xs.drop 11 from rfl,<- d1,zA7]
theorem zpf {n:Nat} {v:V} (h:jo Tryz.prog n 52 [v]):∃ nl l,v=jA nl l/\l.length<=maxLen/\l.length<2 ^ 60/\∀ c∈l,GdC c:=by
 cases n with
 | zero=>exact h.elim
 | succ n =>
  simp only [jo,Tryz.underlying52,c89] at h;rcases h with h|⟨ys,h,⟨hl,hb⟩,hy⟩
  ·simp only [zAw,zBR] at h;exact ⟨true,[],by rw [h];rfl,by simp,by simp,by simp⟩
  ·simp only [zAw,zBR] at h;obtain ⟨l,h1,h2⟩:=zcI (h:=wk) (Q:=GdC) ys fun y hyy=>by
    obtain ⟨cs,g1,g2⟩:=hy y hyy;rw [zsc] at g2;obtain ⟨c,rfl,hg⟩:=zpe g1;exact ⟨c,g2.symm,hg⟩
   subst h1;rw [zAj] at hl hb;have h8:=b89;have hr:reachBytes<2 ^ 60:=by decide
   have:=Nat.le_mul_of_pos_right l.length h8;exact ⟨false,l,h,hl,by omega,h2⟩
theorem zpg {n:Nat} {v:V} (h:jo Tryz.prog n 36 [v]):∃ nl l,v=qV nl l/\l.length<=maxLen/\l.length * 8<=140737488355328:=by
 cases n with
 | zero=>exact h.elim
 | succ n =>
  simp only [jo,Tryz.underlying36,c3',b3] at h;rcases h with h|⟨ys,h,⟨hl,hb⟩,hy⟩
  ·simp only [zAw,zBR] at h;exact ⟨true,[],by rw [h];rfl,by simp,by simp⟩
  ·simp only [zAw,zBR] at h;obtain ⟨l,h1,h2⟩:=zcI (h:=V.int .i64) (Q:=fun _=>True) ys fun y hyy=>by
    obtain ⟨cs,g1,g2⟩:=hy y hyy;obtain ⟨z,rfl⟩:=ze9 g1;rw [mk3] at g2;exact ⟨z,g2.symm,trivial⟩
   subst h1;rw [zAj] at hl hb;have hr:reachBytes<=140737488355328:=by decide
   exact ⟨false,l,h,hl,by omega⟩
theorem zph {n:Nat} {xs:List V} (h:jo Tryz.prog n 54 xs):∃ nl l al a xn x,xs=[jA nl l,qV al a,zhb xn x]/\(l.length<=maxLen/\l.length<2 ^ 60/\∀ c∈l,GdC c)/\(a.length<=maxLen/\a.length * 8<=140737488355328)/\x.length<=maxLen/\∀ p∈x,zlZ p:=by
 cases n with
 | zero=>exact h.elim
 | succ n =>
  simp only [jo,Tryz.underlying54,c54] at h;obtain ⟨hl,h⟩:=h;have f0:=h ⟨ "L",52,0,false,"","",0⟩ (by simp)
  have f1:=h ⟨ "Active",36,1,false,"","",24⟩ (by simp)
  have f2:=h ⟨ "Texts",28,2,false,"","",48⟩ (by simp)
  clear h;simp only [c52,c36,c28] at f0 f1 f2
  match xs,hl with
  | [u,v,w],_ =>
   obtain ⟨nl,l,rfl,k1⟩:=zpf f0;obtain ⟨al,a,rfl,k2⟩:=zpg f1;obtain ⟨xn,x,rfl,k3⟩:=zo8 f2;exact ⟨nl,l,al,a,xn,x,rfl,k1,k2,k3⟩
def S0G:List TypeId:=[3,4,5,9,22,24,25,27,28,34,36,52,54,89]
theorem closed0G:S0G.all (zdH Tryz.prog S0G)=true:=by kernel_rfl
theorem zsd (n:Nat) (xs:List V) (h:jo Tryz.prog n 54 xs):∃ k,∀ m,k<=m->callA Tryz.prog gl2 m 5 [.agg xs] ⟨[],[]⟩=some (.ret (.bool true),⟨[],[]⟩):=by
 obtain ⟨nl,l,al,a,xn,x,rfl,⟨h1,h2,h3⟩,⟨h4,h5⟩,h6,h7⟩:=zph h;exact Sx.Ev.run (xs:=[.agg _]) (ev5 (nl:=nl) (al:=al) (xn:=xn) h1 h2 h4 h5 h3 h6 h7) ⟨[],[]⟩
end Go.Proofs.YtlnijcffanjieaaGreatDoor
