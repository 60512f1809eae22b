/- Seat 7: slices.Sorted of slices.Values, as the machine knows it; Seat 7: slices.Sorted, known to the machine where its list lies in a box; Seat 7: rules; what the law's small functions make of them; and what follows from it. Conditions: none but those that each theorem names. -/
import Derived.Test.YtlnijcffanjieaaGreatDoorVmD
import Derived.Test.YtlnijcffanjieaaGreatDoorVmG
import Derived.Test.YtlnijcffanjieaaGreatDoorVmL
import Derived.Test.YtlnijcffanjieaaGreatDoorVmM
import Derived.Test.YtlnijcffanjieaaGreatDoorVmQ
import Derived.Test.YtlnijcffanjieaaGreatDoorVmR
import Derived.Test.YtlnijcffanjieaaGreatDoorVmS
import Derived.Test.YtlnijcffanjieaaGreatDoorVmT
import Derived.Test.YtlnijcffanjieaaGreatDoorVmU
namespace Go.Proofs.YtlnijcffanjieaaGreatDoor
open Go Go.Vm Go.RowKit Go.Maps Go.Sort Go.Shelf
attribute [local go_sem] Oper.semAt_some
theorem zgG (lb:Array Value) (zs:List Int) (w:World) (C:Addr->Value->Prop) (f:Nat->Value) (hf:∀ j,j<zs.length->f j=.int .i64 (zs.getD j 0)) (hC:∀ ad v,C ad v->ad.block<w.heap.size) (hN:zs.length<=maxLen) (hNb:zs.length * 8<=140737488355328)
  (hseq:zkJ Tryz.prog 73 lb (zab false false 1 zs.length f) zs.length (KpC C) w) :
  CallsIn Fence.wide 4 Tryz.prog 71 #[.func (.func 73) #[] lb] w fun e w'=>∃ v,e=.returned v/\w'.ownsRow w.heap.size 3 1 v zs.length (zs.map (Value.int .i64))/\(v=.slice none 0 0 ↔ zs=[])/\Below w.heap.size w w':=by
 have hro:Fence.wide.round=none:=rfl;have h1:1<=4:=by decide
 have h100:Fence.wide.fn 100:=trivial;refine callsIn_of_wp Tryz.func71 rfl trivial ?_ hro;simp only [Tryz.ntmps71,zBU,zAT,List.length_nil,Nat.reduceAdd,Nat.reduceSub,Array.replicate_succ,zBm,List.push_toArray,List.append_toArray,zAV,zAY]
 gi_wp2_with (gi_at_call 100;refine (zeu rfl lb zs _ C f hf hC hN hNb hseq).mono ?_;rintro e w' ⟨v,rfl,hrow,hnil,hb⟩)
 go_ret
 exact ⟨v,rfl,hrow,hnil,hb⟩
theorem zoz (W:World):Calls Tryz.prog 72 #[.slice none 0 0] W fun e W'=>e=.returned (.tuple #[])/\Below W.heap.size W W':=by
 have hk:HkOk Tryz.prog { g:=fun _ _=>none }:=⟨fun f args v h=>(by cases h),fun n f args H out H' h=>(by cases h),fun _ _ _ _ h=>(by cases h)⟩
 have hc:callA Tryz.prog { g:=fun _ _=>none } 20 72 [.snil] ⟨[],[]⟩=some (.ret (.tup []),⟨[],[]⟩):=by kernel_rfl
 refine Calls.mono (yL mixed numOk primOk hk 20 72 [.snil] ⟨[],[]⟩ _ _ hc (zac W) W #[.slice none 0 0] .ret ⟨fun k off v h=>(by cases h),fun k U j h=>(by cases h)⟩ (zhg W) ⟨rfl,fun j x v hx hv=>?_,by simp [tops,V.top],fun x hx=>by simp at hx;subst hx;simp⟩) fun e W' he=>?_
 ·match j,hx,hv with
  | 0,hx,hv=>cases hx;cases hv;exact .snil
  | j+1,hx,_=>simp at hx
 ·cases e with
  | returned cv =>
   obtain ⟨v,g',h1,h2,h3,_,_⟩:=he;cases h1;cases h3 with
   | @tup _ arr h4 _ =>
    obtain rfl:arr=#[]:=Array.eq_empty_of_size_eq_zero (by simpa using h4.symm)
    exact ⟨rfl,h2.fr.os,h2.fr.tape,h2.fr.output,h2.fr.size,fun c hcc=>h2.fr.heap c ⟨hcc,fun b hb=>by simp at hb,.inl rfl⟩⟩
  | panicked chain=>obtain ⟨v,cv,g',h1,_⟩:=he;cases h1
  | outgrown=>exact he.elim
def jG (l:List Int):List Int:=l.mergeSort fun x y=>decide (x<=y)
def ja (l:List Int):List V:=l.map (V.int .i64)
theorem zh3 (lb:Array Value) (zs:List Int) (w:World) (C:Addr->Value->Prop) (f:Nat->Value) (hf:∀ j,j<zs.length->f j=.int .i64 (zs.getD j 0)) (hC:∀ ad v,C ad v->ad.block<w.heap.size) (hN:zs.length<=maxLen) (hNb:zs.length * 8<=140737488355328)
  (hseq:zkJ Tryz.prog 73 lb (zab false false 1 zs.length f) zs.length (KpC C) w) :
  CallsIn Fence.wide 5 Tryz.prog 47 #[.func (.func 73) #[] lb] w fun e w'=>∃ v,e=.returned v/\w'.ownsRow w.heap.size 3 1 v zs.length ((jG zs).map (Value.int .i64))/\(v=.slice none 0 0 ↔ zs=[])/\Below w.heap.size w w':=by
 have hro:Fence.wide.round=none:=rfl;have h1:1<=5:=by decide
 have h71:Fence.wide.fn 71:=trivial;have h72:Fence.wide.fn 72:=trivial;refine callsIn_of_wp Tryz.func47 rfl trivial ?_ hro;simp only [Tryz.ntmps47,zBU,zAT,List.length_nil,Nat.reduceAdd,Nat.reduceSub,Array.replicate_succ,zBm,List.push_toArray,List.append_toArray,zAV,zAY]
 gi_wp2_with (gi_at_call 71;refine (zgG lb zs _ C f hf hC hN hNb hseq).mono ?_;rintro e W ⟨v,rfl,hrow,hnil,hb⟩)
 rcases hrow.2 with ⟨rfl,hz⟩|⟨gb,cap,cur,rfl,hbase,hgb,r1,r2,r3,r4⟩
 ·have hss:zs=[]:=zBh hz;subst hss
  gi_wp2_with (gi_at_call 72;refine (callsIn_wide.2 (zoz W)).mono ?_;rintro e w' ⟨rfl,hb2⟩)
  go_ret
  exact ⟨.slice none 0 0,rfl,⟨by simp [jG],.inl ⟨rfl,rfl⟩⟩,by simp,hb.trans (hb2.mono hb.size)⟩
 ·have hH:=holds_of_blockI (ss:=zs) hgb (by simpa using r4)
  have hgl:gb<W.heap.size:=(zAZ.1 hgb).1;have hsz:zs.length<4611686018427387904:=by omega
  have cS:Calls Tryz.prog 72 _ _ _:=Any.slices_Sort_int lays189 gb 0 cap zs W hH hgl hsz
  gi_wp2_with (gi_at_call 72;refine (callsIn_wide.2 cS).mono ?_;rintro e w' ⟨rfl,nn,os,rfl⟩)
  go_ret
  exact ⟨_,rfl,ownsRow_sortedI (List.length_mergeSort _) hbase hgb r1 r2 r3,hnil,hb.grown (grownBy_sortedI _) hb.size (fun j hj=>by cases hj;exact hbase)⟩
end Go.Proofs.YtlnijcffanjieaaGreatDoor
namespace Go.Proofs.YtlnijcffanjieaaGreatDoor
open Go Go.Vm
def intsOf:List V->Option (List Int)
 | []=>some []
 | .int .i64 n::r=>(intsOf r).map (n::·)
 | _=>none
theorem intsOf_eq:∀ {cs:List V} {l:List Int},intsOf cs=some l->cs=ja l
 | [],l,h=>by cases h;rfl
 | c::cs,l,h=>by
  unfold intsOf at h;split at h<;>try (cases h;done)
  ·rename_i h0;cases h0
  ·rename_i n r h0;cases h0;cases hr:intsOf cs with
   | none=>rw [hr] at h;cases h
   | some l'=>rw [hr] at h;cases h;rw [intsOf_eq hr];rfl
theorem intsOf_int:∀ l:List Int,intsOf (ja l)=some l
 | []=>rfl
 | a::l=>by
  have:=intsOf_int l;simp only [ja,zAX] at this ⊢;simp [intsOf,this]
def zi4 (zs:List Int):V:=if zs.isEmpty then .snil else .sl 1 (ja (jG zs)) .no
def numsOf:V->Option (List Int)
 | .snil=>some []
 | .sl 1 xs .no=>intsOf xs
 | _=>none
def zh4 (args:List V) (H:Hp):Option (Out×Hp) :=
 match args with
 | [.fn (.func 73) [] [.ptr b 0]]=>match nth H.blks b with
  | some (.cells [v] 36)=>match numsOf v with
   | some zs=>if zs.length * 8<=140737488355328 then some (.ret (zi4 zs),H) else none
   | none=>none
  | _=>none
 | _=>none
variable {d:Nat} {H H':Hp} {g:Gh} {w w':World} {l:Vm.Loc}
theorem zh5 {zs:List Int} {v:Value} (hw:Wok g H.blks w) (hb:RowKit.Below w.heap.size w w') (hrow:w'.ownsRow w.heap.size 3 1 v zs.length ((jG zs).map (Value.int .i64))) (hnil:v=.slice none 0 0 ↔ zs=[]) :
  CallPost d H g w l (.ret (zi4 zs)) H (.returned v) w':=by
 unfold zi4
 by_cases hz:zs=[]
 ·obtain rfl:=hnil.2 hz;subst hz;exact ⟨.snil,g,rfl,zcS hw hb,.snil,trivial,zAW _⟩
 ·have hE:zs.isEmpty=false:=by cases zs<;>simp_all
  rw [hE];have hrow':=hrow;obtain ⟨hl,⟨h0,_⟩|⟨c,cap,cur,rfl,hbase,hgb,r1,r2,r3,r4⟩⟩:=hrow
  ·exact absurd (hnil.1 h0) hz
  ·have hcell:=hrow'.cellAt;have hA:After d H g w H (Gh.ice w.heap.size g w') w':=zkU (dd:=0) hw (zhk (zcS (d:=0) hw hb).wok)
    ⟨.refl _ _,fun c hc=>hb.block c hc.1,fun _ _=>rfl,fun _ _ _=>rfl,hb.size,fun _ _ _=>rfl,hb.os,hb.tape,hb.output⟩
   have hlen:(ja (jG zs)).length=zs.length:=by simp [ja,jG]
   have hflat:zR (ja (jG zs))=ja (jG zs):=flat_ones fun j x hx=>by
    obtain ⟨m,_,rfl⟩:=zAw.1 (zB hx);rfl
   have hj:∀ (j:Nat) (x:V),(zR (ja (jG zs)))[j]?=some x->j<zs.length/\x=.int .i64 ((jG zs).getD j 0):=fun j x hx=>by
    rw [hflat] at hx;have hlt:j<(ja (jG zs)).length:=(zAI.1 hx).1;refine ⟨by omega,?_⟩
    simp only [ja,zAj] at hx;have hlt':j<(jG zs).length:=by simpa [ja] using hlt
    rw [zAS hlt'] at hx;simp only [zAB,zAA] at hx;rw [<- hx];simp [hlt']
   refine ⟨_,_,rfl,hA,?_,trivial,?_⟩
   ·show RelV _ (.sl 1 (ja (jG zs)) .no) _;have hr:RelV (Gh.ice w.heap.size g w') (.sl 1 (ja (jG zs)) .no) (.slice (some ⟨c,0,none⟩) (ja (jG zs)).length cap):=by
     refine .sl (c:=c) (o:=0) (fun j=>.int .i64 ((jG zs).getD j 0)) (fun x hx=>?_) (by omega) (fun _=>rfl) (fun j x hx=>?_) (fun j x hx=>?_) (fun j x hx=>?_)
     ·obtain ⟨m,_,rfl⟩:=zAw.1 hx;rfl
     ·rw [(hj j x hx).2];rfl
     ·have h1:=(hj j x hx).1;have h2:=hcell j (by simpa using h1)
      simp only [Gh.ice,show ¬ c<w.heap.size by omega,if_false,zAU]
      rw [h2];have:j<(jG zs).length:=by simpa [jG] using h1
      simp [this]
     ·rw [(hj j x hx).2];exact .int _ _
    rwa [hlen] at hr
   ·have:tops (ja (jG zs))=0:=Nat.le_zero.1 (qJ fun x hx=>by
     obtain ⟨n,_,rfl⟩:=zAw.1 hx
     exact zAR _)
    simp [V.top,this]
theorem zoA {k:IntKind} {n:Int} {cv:Value} (h:RelV g (.int k n) cv):cv=.int k n:=by cases h;rfl
theorem zni {args:List V} {out:Out} (hc:zh4 args H=some (out,H')) {cargs:Array Value} (hw:Wok g H.blks w) (ha:ArgsOk g H.blks.length args cargs):Calls Tryz.prog 47 cargs w (CallPost d H g w l out H'):=by
 unfold zh4 at hc;split at hc<;>try (cases hc;done)
 rename_i b;split at hc<;>try (cases hc;done)
 rename_i v hb;split at hc<;>try (cases hc;done)
 rename_i zs hzs;split at hc<;>try (cases hc;done)
 rename_i hbig;simp only [zAA,zAJ] at hc;obtain ⟨rfl,rfl⟩:=hc;have hsz:cargs.size=1:=ha.len.symm
 obtain ⟨cv,rfl⟩:∃ cv,cargs=#[cv]:=⟨cargs[0],by
  apply Array.ext (by simp [hsz])
  intro i h1 h2;simp at h2
  subst h2;rfl⟩
 have hrel:=ha.rel 0 _ cv rfl rfl;cases hrel with
 | @fn _ _ _ fa fc e1 e2 e3 e4 =>
 obtain rfl:fa=#[]:=Array.eq_empty_of_size_eq_zero (by simpa using e1.symm)
 have hfc:fc.size=1:=by simpa using e2.symm
 obtain ⟨pv,rfl⟩:∃ pv,fc=#[pv]:=⟨fc[0],by
  apply Array.ext (by simp [hfc])
  intro i h1 h2;simp at h2
  subst h2;rfl⟩
 have hp:=e4 0 _ pv rfl rfl;cases hp;have hbk:H.blks[b]?=some (.cells [v] 36):=by rw [<- zr];exact hb
 obtain ⟨arr,ha1,ha2,ha3⟩:=hw.ok b _ hbk;have hbox:g.blk b<w.heap.size:=(zAZ.1 ha1).1
 obtain ⟨av,rfl⟩:∃ av,arr=#[av]:=⟨arr[0]'(by rw [<- ha2];exact Nat.one_pos),by
  apply Array.ext (by simpa using ha2.symm)
  intro i h1 h2;simp at h2
  subst h2;rfl⟩
 have hav:=(ha3 0 v av rfl rfl).2.1;have hcellb:w.cell? ⟨g.blk b,0,none⟩=some av:=by simp [World.cell?,ha1]
 have key:∀ (a:Option Addr) (cap c o:Nat) (f:Nat->Value),av=.slice a zs.length cap->(0<zs.length->c<w.heap.size)->(0<zs.length->a=some ⟨c,o,none⟩)->(∀ j,j<zs.length->w.cell? ⟨c,o+j,none⟩=some (f j))->(∀ j,j<zs.length->f j=.int .i64 (zs.getD j 0)) ->
   Calls Tryz.prog 47 #[.func (.func 73) #[] #[.pointer (some ⟨g.blk b,0,none⟩)]] w (CallPost d H g w l (.ret (zi4 zs)) H):=by
  intro a cap c o f h1 h2 h3 h4 h5;have hit:=vals_spec.2 3 1 false u36 s3 a3 (by decide) w (g.blk b) a zs.length cap c o f (fun ad _=>ad.block<w.heap.size) hbox h2 (h1 ▸ hcellb) h3 (fun j hj=>h4 j (by omega)) hbox (fun j hj=>h2 (by omega)) (by omega)
  have hml:zs.length<=maxLen:=zAP (show zs.length<=140737488355328 by omega) (by decide)
  refine (callsIn_wide.1 (zh3 _ zs w (fun ad _=>ad.block<w.heap.size) f h5 (fun ad v h=>h) hml hbig hit)).mono fun e w' he=>?_;obtain ⟨v,rfl,hr,hn,hbl⟩:=he;exact zh5 hw hbl hr hn
 unfold numsOf at hzs;split at hzs<;>try (cases hzs;done)
 ·cases hzs;cases hav;exact key none 0 0 0 (fun _=>.int .i64 0) rfl (fun h=>by simp at h) (fun h=>by simp at h) (fun j hj=>by simp at hj) (fun j hj=>by simp at hj)
 ·rename_i xs;obtain rfl:=intsOf_eq hzs;have hflat:zR (ja zs)=ja zs:=flat_ones fun j x hx=>by
   obtain ⟨m,_,rfl⟩:=zAw.1 (zB hx);rfl
  cases hav with
  | @sl _ _ _ a cap c o f k1 k2 k3 k4 k5 k6 =>
  rw [hflat] at k4 k5 k6;have hlen:(ja zs).length=zs.length:=by simp [ja]
  have hx:∀ j,j<zs.length->(ja zs)[j]?=some (.int .i64 (zs.getD j 0)):=fun j hj=>by simp [ja,hj]
  refine key a cap c o f (by rw [hlen]) (fun h0=>?_) (fun h0=>k3 fun e=>by rw [e] at hlen;simp at hlen;omega) (fun j hj=>hw.mem _ _ _ (k5 j _ (hx j hj))) (fun j hj=>?_)
  ·exact xF (hw.mem _ _ _ (k5 0 _ (hx 0 h0)))
  ·exact zoA (k6 j _ (hx j hj))
end Go.Proofs.YtlnijcffanjieaaGreatDoor
namespace Go.Proofs.YtlnijcffanjieaaGreatDoor
set_option maxRecDepth 10000
open Go Go.Vm Go.Vm.Sx
structure Co where
 hd:E
 ht:Bool
 tl:E
def qf (c:Co):List V:=ecells c.hd++(.bool c.ht::ecells c.tl)
def kM (c:Co):V:=.agg (qf c)
def qS (nl:Bool) (l:List Co):V:=lv 21 nl (l.map kM)
def qx (nl:Bool) (l:List Int):V:=lv 1 nl (ja l)
theorem znj (l:List Int):tops (ja l)=0:=Nat.le_zero.1 (qJ fun x hx=>by
 obtain ⟨n,_,rfl⟩:=zAw.1 hx
 exact zAR _)
theorem zh6 (c:Co):tops (qf c)=0:=by
 simp [qf,wc,zhY,tops,V.top]
theorem zcb (c:Co):(kM c).top=0:=zh6 c
theorem tops_cor:∀ l:List Co,tops (l.map kM)=0
 | []=>rfl
 | a::l=>by simp only [zAX,tops];rw [tops_cor l,zcb];rfl
theorem zev (nl:Bool) (l:List Co):(qS nl l).top=0:=by unfold qS;rw [zee];exact tops_cor l
theorem zh7 (nl:Bool) (l:List Int):(qx nl l).top=0:=by unfold qx;rw [zee];exact znj l
theorem zh8 (nl:Bool) (l:List Co):kOk (.sl 21) (qS nl l)=true:=zoc ..
theorem yF (nl:Bool) (l:List Co):vL (qS nl l)=l.map kM:=zj2 ..
theorem ki (nl:Bool) (l:List Co):clr (qS nl l)=qS nl l:=clr_lv ..
theorem zgH (nl:Bool) (l:List Int):kOk (.sl 1) (qx nl l)=true:=zoc ..
theorem zkm (nl:Bool) (l:List Int):vL (qx nl l)=ja l:=zj2 ..
theorem jB (nl:Bool) (l:List Int):clr (qx nl l)=qx nl l:=clr_lv ..
theorem zkn {l:List Co} {i:Nat} {c:Co} (h:l[i]?=some c):nth (l.map kM) i=some (kM c):=by rw [zr,zAj,h];rfl
theorem znk {l:List Int} {i:Nat} {n:Int} (h:l[i]?=some n):nth (ja l) i=some (.int .i64 n):=by rw [zr,ja,zAj,h];rfl
variable {gl:Gl} [NoU gl]
theorem lent22:wb Tryz.prog Tryz.f22.params.toList=some []:=by kernel_rfl
theorem lent49:wb Tryz.prog Tryz.f49.params.toList=some []:=by kernel_rfl
theorem lent70:wb Tryz.prog Tryz.f70.params.toList=some []:=by kernel_rfl
theorem zqP {x:V}:vU Tryz.prog [52] [.d x] 0:=by
 refine ⟨fun e=>?_,trivial⟩;rw [Tryz.underlying52];simp
theorem zqQ {x:V}:vU Tryz.prog [89] [.d x] 0:=by
 refine ⟨fun e=>?_,trivial⟩;rw [Tryz.underlying89];simp
def zeroM:E->Bool
 | .mk op pl s0 s1 s2 s3 tx mn mx _nl args=>op == 0 && pl == 0 && (s0 == 0 && (s1 == 0 && (s2 == 0 && s3 == 0))) && eqL tx [] && mn == 0 && mx == 0 && decide (args.length=0)
theorem zrx (hgl:GL gl) (h70:∀ args,gl.hk 70 args=none):∀ (e:E),Ev Tryz.prog gl 70 [.d (enc e)] [] (.bool (zeroM e)) []
 | .mk op pl s0 s1 s2 s3 text mn mx nl args=>by
  refine kI (xs:=[enc (.mk op pl s0 s1 s2 s3 text mn mx nl args)]) hgl.top h70 tree70_ok Tryz.func70 lent70 zon (by simp [tops,top_enc]) (N:=1) ?_
  have hl:((args.length:Int) == 0)=decide (args.length=0):=by
   cases args with
   | nil=>rfl
   | cons a l=>exact (beq_false_of_ne (by simp;omega)).trans (by simp)
  simp only [tree70,enc,zeroM];simp only [qb,qa,ev_opn,jf,jo,qc,wN,yG,ks_nil,zAf,jg,zH,zQ,evB,evI,evS,evL,zy,evC,zD,jD,qq,zmQ,jF,cmS,yH,vP,encs_length,hl]
def kj (c:Co):E:=if c.ht then zpS [c.hd,c.tl] else c.hd
theorem zry (hgl:GL gl) (h49:∀ args,gl.hk 49 args=none):∀ (c:Co),Ev Tryz.prog gl 49 [.d (kM c)] [] (enc (kj c)) []
 | ⟨.mk op pl s0 s1 s2 s3 text mn mx nl args,ht,.mk op' pl' s0' s1' s2' s3' text' mn' mx' nl' args'⟩=>by
  refine kI (xs:=[kM _]) hgl.top h49 tree49_ok Tryz.func49 lent49 zqQ (by simp [tops,zcb]) (N:=1) ?_
  cases ht<;>simp only [tree49,kM,qf,ecells,zAY,zAV,kj,if_true,zAD,if_false,zpS,enc]
  ·simp only [kZ,qb,qa,ev_opn,jf,jo,qc,wN,yG,vV,ks_nil,zAf,zBB,jg,zH,zQ,evB,zy,evC,zD,jD,wl,zp,vj,yH,jP]
  ·simp only [wz,qb,qa,ev_opn,jf,jo,qc,wN,yG,vV,ks_nil,zAf,zAq,jg,zH,zQ,evB,evI,evS,evL,zy,evC,zD,jD,wl,zp,vj,yH,jP];rfl
def smS (n:Int) (c:Co):Int:=IntKind.i64.wrap (IntKind.i64.wrap (n+sizeM c.hd 0)+sizeM c.tl 0)
def zi5 (l:List Co):Bool:=lez (l.foldl smS 0) 1200
theorem zrz (hgl:GL gl) (h22:∀ args,gl.hk 22 args=none) (nl:Bool) (l:List Co) (hl:l.length<=maxLen) (hw:∀ c∈l,Wf c.hd/\Wf c.tl):Ev Tryz.prog gl 22 [.d (qS nl l)] [] (.bool (zi5 l)) []:=by
 have hml:=maxLen_le;refine kI (xs:=[qS nl l]) hgl.top h22 tree22_ok Tryz.func22 lent22 zqP (by simp [tops,zev]) (N:=l.length+1) ?_
 simp only [tree22];simp only [q9,xP,jf,evI,zy,evC,zh8];refine zb6 (st:=fun i=>[.int .i64 ((l.take i).foldl smS 0),.int .i64 (i:Int)]) (m:=l.length) (fun i hi=>?_) ?_ (by omega)
 ·obtain ⟨c,hc⟩:∃ c,l[i]?=some c:=⟨l[i],by simp [hi]⟩
  have h1:=zfm hi;have h2:=zkn hc;have h4:=zlp (i:=i) (by omega)
  obtain ⟨hw1,hw2⟩:=hw c (zAe hc);have ht:(l.take (i+1)).foldl smS 0=smS ((l.take i).foldl smS 0) c:=by
   rw [List.take_add_one,hc,List.foldl_append];rfl
  rw [ht];have d1:=kf (zpI hgl c.hd hw1 0);have d2:=kf (zpI hgl c.tl hw2 0);simp only [smS];obtain ⟨⟨op,pl,s0,s1,s2,s3,text,mn,mx,nl',args⟩,ht,⟨op',pl',s0',s1',s2',s3',text',mn',mx',nl'',args'⟩⟩:=c;simp only [enc] at d1 d2;simp only [kM,qf,ecells,zAY,zAV] at h2;simp only [lp22_1]
  simp only [kZ,qb,zaU,ev_opn,q9,jN,jf,jo,qc,wN,yG,vV,ks_nil,zAf,jg,zfl,zH,zQ,evB,evI,evL,zy,evC,zD,wS,evA,qZ,qq,ku,biI,zfn,joinL,sizesOk,yF,h1,h2,h4,d1,d2,yH,zAo,zBZ]
 ·have h1:=zj0 (zAR l.length);simp only [lp22_1,zBd,zi5];simp only [wz,qb,ev_esc,qa,jf,jo,zH,zQ,evB,evI,evL,zy,evC,zD,jD,qq,ku,zec,yF,h1,zAo]
end Go.Proofs.YtlnijcffanjieaaGreatDoor
namespace Go.Proofs.YtlnijcffanjieaaGreatDoor
set_option maxRecDepth 100000
open Go Go.Vm
def GdC (c:Co):Prop:=(GdE c.hd/\Rg c.hd)/\(GdE c.tl/\Rg c.tl)
def zc8 (c:Co):Prop:=Can c.hd/\Can c.tl
theorem zi6 {c c':Co} (h:zc8 c) (h':zc8 c') (he:qf c=qf c'):c=c':=by
 obtain ⟨hd,ht,tl⟩:=c;obtain ⟨hd',ht',tl'⟩:=c';simp only [qf] at he;obtain ⟨e1,e2⟩:=List.append_inj he (by rw [qm,qm])
 simp only [zAu,V.bool.injEq] at e2;have h1:=enc_inj hd hd' h.1 h'.1 (by rw [qt,qt,e1])
 have h2:=enc_inj tl tl' h.2 h'.2 (by rw [qt,qt,e2.2])
 rw [h1,h2,e2.1]
theorem zh9 {c c':Co} (h:zc8 c) (h':zc8 c') (he:kM c=kM c'):c=c':=zi6 h h' (V.agg.inj he)
def zpV (c:Co):List V:=[kM c]
theorem i70:∀ a b,Can a->Can b->zi3 a=zi3 b->V.bool (zeroM a)=V.bool (zeroM b):=fun a b ha hb h=>by
 rw [enc_inj a b ha hb (List.cons.inj h).1]
theorem i49:∀ a b,zc8 a->zc8 b->zpV a=zpV b->enc (kj a)=enc (kj b):=fun a b ha hb h=>by
 rw [zh9 ha hb (List.cons.inj h).1]
noncomputable def glM:Gl :=
 {g:=glw
  hk:=fun f args=>if Nat.beq f 11 then hkX zi3 GdE (fun e=>.bool (vd e)) args else if Nat.beq f 70 then hkX zi3 Can (fun e=>.bool (zeroM e)) args else if Nat.beq f 49 then hkX zpV zc8 (fun c=>enc (kj c)) args else none
  hk2:=fun n f args H=>if Nat.beq f 47 then zh4 args H else if Nat.beq f 44 || Nat.beq f 45 then callA Tryz.prog glb (n+1) f args H else none }
theorem zew {d d':Nat} (h:d<=d') {H H':Hp} {g g':Gh} {w w':World} (ha:After d H g w H' g' w'):After d' H g w H' g' w' :=
 {ha with fr:=ha.fr.mono h }
theorem hkM:HkOk Tryz.prog glM:=by
 refine ⟨fun f args v h d H g w cargs lc h1 h2 h3=>?_,fun n f args H out H' h d hd g w cargs lc h1 h2 h3=>?_,fun _ _ _ _ h=>(by cases h)⟩
 ·simp only [glM] at h;split at h
  ·rename_i hf;obtain rfl:f=11:=zAO hf;obtain ⟨e,hg,rfl,rfl⟩:=kL h;obtain ⟨k,hk⟩:=Sx.Ev.run (xs:=[enc e]) (zqN GL0 e hg.1) ⟨[],[]⟩;exact wi mixed numOk primOk hk0 (hk k (zAR _)) (by simp [tops,top_enc]) rfl h1 h2 h3
  ·split at h
   ·rename_i hf;obtain rfl:f=70:=zAO hf;obtain ⟨e,hg,rfl,rfl⟩:=kL h;obtain ⟨k,hk⟩:=Sx.Ev.run (xs:=[enc e]) (zrx GL0 (fun _=>rfl) e) ⟨[],[]⟩;exact wi mixed numOk primOk hk0 (hk k (zAR _)) (by simp [tops,top_enc]) rfl h1 h2 h3
   ·split at h
    ·rename_i hf;obtain rfl:f=49:=zAO hf;obtain ⟨c,hg,rfl,rfl⟩:=kL h;obtain ⟨k,hk⟩:=Sx.Ev.run (xs:=[kM c]) (zry GL0 (fun _=>rfl) c) ⟨[],[]⟩;exact wi mixed numOk primOk hk0 (hk k (zAR _)) (by simp [tops,zcb]) (top_enc _) h1 h2 h3
    ·cases h
 ·simp only [glM] at h;split at h
  ·rename_i hf;obtain rfl:f=47:=zAO hf;exact zni h h2 h3
  ·split at h
   ·refine Calls.mono (yL mixed numOk primOk hkb (n+1) f args H out H' h g w cargs lc h1 h2 h3) fun e w' he=>?_;cases e with
    | returned cv =>
     obtain ⟨v,g',e1,e2,e3⟩:=he;exact ⟨v,g',e1,zew hd e2,e3⟩
    | panicked chain =>
     obtain ⟨v,cv,g',e1,e2,e3,e4⟩:=he;exact ⟨v,cv,g',e1,e2,zew hd e3,e4⟩
    | outgrown=>exact he.elim
   ·cases h
theorem zpW {e:E} (h:GdE e):glM.hk 11 [enc e]=some (.bool (vd e)):=zaD (a:=e) i11 h
theorem zpX {e:E} (h:Can e):glM.hk 70 [enc e]=some (.bool (zeroM e)):=zaD (a:=e) i70 h
theorem zpY {c:Co} (h:zc8 c):glM.hk 49 [kM c]=some (enc (kj c)):=zaD (a:=c) i49 h
theorem zcc {f:FuncId} (h:([11,49,70].any (Nat.beq f))=false) (args:List V):glM.hk f args=none:=by
 simp only [List.any_cons,List.any_nil,zBs,zBW] at h;simp only [glM,h.1,h.2.1,h.2.2,zAD,if_false]
theorem zbv {f:FuncId} (h:([44,45,47].any (Nat.beq f))=false) (n:Nat) (args:List V) (H:Hp):glM.hk2 n f args H=none:=by
 simp only [List.any_cons,List.any_nil,zBs,zBW] at h;simp only [glM,h.1,h.2.1,h.2.2,zBs,zAD,if_false]
theorem zoB {n:Nat} {f:FuncId} (hf:f=44\/f=45) {args:List V} {H:Hp} {r:Out×Hp} (h:callA Tryz.prog glb (n+1) f args H=some r):callA Tryz.prog glM (n+1) f args H=some r:=by
 obtain ⟨bs,es⟩:=H;have h1:glM.hk f args=none:=zcc (by rcases hf with rfl|rfl<;>rfl) args
 have h2:glM.hk2 n f args ⟨bs,es⟩=some r:=by rcases hf with rfl|rfl<;>exact h
 rw [callA.eq_def];simp only [h1,h2]
theorem zrA {n:Nat} {args:List V} {H:Hp} {r:Out×Hp} (h:zh4 args H=some r):callA Tryz.prog glM (n+1) 47 args H=some r:=by
 obtain ⟨bs,es⟩:=H;have h1:glM.hk 47 args=none:=zcc rfl args;have h2:glM.hk2 n 47 args ⟨bs,es⟩=some r:=h;rw [callA.eq_def];simp only [h1,h2]
def zi7 (cx:Cx) (H:Hp) (lk:List (Nat×Nat)) (df:List (V×List V)) (env:List V):Option V->Option (List V)->Option (OR×St)
 | some fv,some l=>qE lk df env (cx.callV (clr fv) l H)
 | _,_=>none
theorem zia {cx:Cx} {H:Hp} {lk:List (Nat×Nat)} {df:List (V×List V)} {env:List V} {fv:V} {l:List V}:zi7 cx H lk df env (some fv) (some l)=qE lk df env (cx.callV (clr fv) l H):=rfl
theorem znl {cx:Cx} {takes:List Tmp} {dst:Option Tmp} {type:TypeId} {pos:String} {after:Array Edge} {guard:Option (Nat×Bool)} {env:List V} {H:Hp} {lk:List (Nat×Nat)} {df:List (V×List V)} {t:Tmp} {args:Array Operand} {ts:Array TypeId} :
  cx.op takes ⟨dst,.call ⟨.value (.tmp t),args,ts⟩,type,pos,after,guard⟩ env H lk df=zi7 cx H lk df env (nth env t) (peeks env args.toList):=by
 simp only [Cx.op,peek];cases nth env t with
 | none=>rfl
 | some fv=>cases peeks env args.toList with
  | none=>rfl
  | some l=>simp only [zi7,qE];cases cx.callV (clr fv) l H with
   | none=>rfl
   | some q=>obtain ⟨a,b⟩:=q;rfl
theorem ag52:jE Tryz.prog 52=some false:=by kernel_rfl
theorem ag3':jE Tryz.prog 3=some false:=by kernel_rfl
theorem ag89:jE Tryz.prog 89=some true:=by kernel_rfl
theorem sz89:qg Tryz.prog 89=some 21:=by kernel_rfl
theorem zko {H:Hp} {nl:Bool} {l:List Co}:km Tryz.prog H 52 (qS nl l)=some (l.length:Int):=by
 rcases Sx.lv_cases 21 nl (l.map kM) with h|⟨h0,h⟩<;>rw [qS,h]
 ·simp [km]
 ·have:l=[]:=by simpa using h0
  subst this;simp [km]
theorem zc1 {H:Hp} {nl:Bool} {l:List Int}:km Tryz.prog H 36 (qx nl l)=some (l.length:Int):=by
 rcases Sx.lv_cases 1 nl (ja l) with h|⟨h0,h⟩<;>rw [qx,h]
 ·simp [km,ja]
 ·have:l=[]:=by simpa [ja] using h0
  subst this;simp [km]
theorem zfy {nl:Bool} {l:List Int} {k:Nat} {r:Int} (h:l[k]?=some r):zZ Tryz.prog 36 (qx nl l) (k:Int)=some (.vp [.int .i64 r]):=by
 have hk:¬ ((k:Int)<0):=by omega
 have hn:nth (ja l) k=some (.int .i64 r):=znk h;rcases Sx.lv_cases 1 nl (ja l) with h'|⟨h0,_⟩
 ·rw [qx,h'];simp [zZ,s3,hk,hn,V.cells]
 ·rw [h0] at hn;simp [nth] at hn
theorem znm {nl:Bool} {l:List Co} {k:Nat} {c:Co} (h:l[k]?=some c):zZ Tryz.prog 52 (qS nl l) (k:Int)=some (.vp (qf c)):=by
 have hk:¬ ((k:Int)<0):=by omega
 have hn:nth (l.map kM) k=some (kM c):=zkn h;rcases Sx.lv_cases 21 nl (l.map kM) with h'|⟨h0,_⟩
 ·rw [qS,h'];simp [zZ,sz89,hk,hn,kM,V.cells]
 ·rw [h0] at hn;simp [nth] at hn
theorem zfz {H:Hp} {g:Nat->Nat->Option V} {v:V}:zF Tryz.prog H g 3 (.vp [v])=some v:=by simp [zF,wa,ag3',nth,zbP]
theorem vg (c:Co):(qf c).length=21:=by simp [qf,qm]
theorem zi8 {H:Hp} {g:Nat->Nat->Option V} {c:Co}:zF Tryz.prog H g 89 (.vp (qf c))=some (kM c):=by
 have:(qf c).take 21=qf c:=zA6 (by rw [vg];decide)
 simp [zF,wa,ag89,sz89,zbP,vg,this,kM]
theorem zqR {H:Hp} {g:Nat->Nat->Option V} {b:Nat} {v:V} (h:H.get b=some (.cells [v] 52)):zF Tryz.prog H g 52 (.ptr b 0)=some v:=zW ag52 h rfl
def xB (l:List Co) (r:Int):Bool:=decide (r<0) || decide ((l.length:Int)<=r)
theorem e69 {n:Nat} {bs:List Blk} {es:List (Nat×Nat)} {b:Nat} {nl:Bool} {l:List Co} {r:Int} (hb:nth bs b=some (.cells [qS nl l] 52)) :
  callA Tryz.prog glM (n+1) 69 [.int .i64 r,.ptr b 0] ⟨bs,es⟩=some (.ret (.bool (xB l r)),⟨bs,es⟩):=by
 refine qA (zcc rfl _) (fun H=>zbv rfl _ _ _) Tryz.func69 rfl ?_;simp only [Tryz.f69,ze];refine zc (tk:=[]) (by kernel_rfl) ?_
 simp only [zj,go_os_nil,ze,zd,zt,ofVal,zg,opQ_val,zm,zAB,zAT,List.length_nil,zAU,Nat.reduceAdd,zAY,zAV,zAG,zAH,List.replicate,Nat.reduceSub]
 have hld:∀ g,zF Tryz.prog ⟨bs,[]⟩ g 52 (.ptr b 0)=some (qS nl l):=fun g=>zqR hb;refine zc (tk:=[]) (by kernel_rfl) ?_
 cases h:decide (r<0) with
 | true =>
  simp only [zj,go_os_nil,zi,zo,zw,zX,zd,qY,peek,zh,ofVal,zA,zb,zg,opQ_val,zm,zp,zk,zv,zAC,zAB,qk,zf,zn,zAG,zAH,qI,zJ,z8,wantB_ft,wd,kQ,h]
  simp only [go_ret,zx,Vm.Fin]
  exact ⟨trivial,[.bool true],rfl,by simp [xB,h,tupOf],(zN rfl (zAW _)).symm⟩
 | false =>
  simp only [zj,go_os_nil,zi,zo,zw,zX,zd,qY,peek,zh,ofVal,zA,zb,zg,opQ_val,zm,zp,zk,zv,zAC,zAB,ql,zf,zn,zAG,zAH,qI,zJ,z8,wantB_ff,kW,kQ,h,hld,ki,zko,zjy]
  simp only [go_ret,zx,Vm.Fin]
  exact ⟨trivial,[.bool _],rfl,by simp [xB,h,tupOf],(zN rfl (zAW _)).symm⟩
def zeQ (b:Nat):V:=.fn (.func 69) [] [.ptr b 0]
theorem v69 {n:Nat} {bs:List Blk} {es:List (Nat×Nat)} {b:Nat} {nl:Bool} {l:List Co} {r:Int} (hb:nth bs b=some (.cells [qS nl l] 52)) (hn:1<=n) :
  Cx.callV ⟨Tryz.prog,glM.g,callA Tryz.prog glM n,glM.uq⟩ (zeQ b) [.int .i64 r] ⟨bs,es⟩=some (.val (.bool (xB l r)),⟨bs,es⟩):=by
 simp only [Cx.callV,zeQ,fL_eq,zAV,zAY,zAX,zAm,zp,zv];obtain ⟨m,rfl⟩:∃ m,n=m+1:=⟨n - 1,by omega⟩
 exact zV Tryz.func69 rfl (e69 hb)
end Go.Proofs.YtlnijcffanjieaaGreatDoor
namespace Go.Proofs.YtlnijcffanjieaaGreatDoor
set_option maxRecDepth 100000
open Go Go.Vm
theorem zib (b:Nat):clr (zeQ b)=zeQ b:=rfl
theorem e99 {n:Nat} {bs:List Blk} {es:List (Nat×Nat)} {b:Nat} {nl al:Bool} {l:List Co} {a:List Int} (hb:nth bs b=some (.cells [qS nl l] 52)) (hn:a.length<n) (ha:a.length<2 ^ 60) :
  ∃ i:Int,callA Tryz.prog glM (n+1) 99 [qx al a,zeQ b] ⟨bs,es⟩=some (.ret (.int .i64 i),⟨bs,es⟩)/\(0<=i ↔ a.any (xB l)=true):=by
 suffices hmain:go ⟨Tryz.prog,glM.g,callA Tryz.prog glM n,glM.uq⟩ n (Fx Tryz.prog Tryz.f99.results.toList fun u H1=>H1=⟨bs,[]⟩/\∃ i:Int,u=.int .i64 i/\(0<=i ↔ a.any (xB l)=true)) [.c (Tryz.f99.body.getD .skip)] .normal ⟨[qx al a,zeQ b]++List.replicate 17 (.tup []),⟨bs,[]⟩,[],[]⟩ by
  obtain ⟨u,H1,h1,rfl,i,rfl,h2⟩:=j6 (gl:=glM) (f:=99) (bs:=bs) (es:=es) (args:=[qx al a,zeQ b]) (n:=n) (zcc rfl _) (fun H=>zbv rfl _ _ _) Tryz.func99 rfl hmain;exact ⟨i,by rw [h1];exact congrArg some (congrArg (Prod.mk _) (zN rfl (zAW _))),h2⟩
 simp only [Tryz.f99,zAy,ze];refine zc (tk:=[]) (by kernel_rfl) ?_
 simp only [zj,go_os_nil,ze,zd,zt,ofVal,zg,opQ_val,zm,zAB,zAY,zAV,zAG,zAH,List.replicate]
 refine zc (tk:=[]) (by kernel_rfl) ?_
 simp only [zj,go_os_nil,zY,zi,qY,peek,ofVal,zb,opQ_val,zm,zAC,zAB,zf,zn,zAG,zAH,jB,zc1]
 refine v6 (fun m s=>∃ k env,m+k=a.length/\s=⟨env,⟨bs,[]⟩,[],[]⟩/\env.length=19/\nth env 0=some (qx al a)/\nth env 1=some (zeQ b)/\nth env 7=some (.int .i64 a.length)/\nth env 8=some (.int .i64 (k:Nat))/\(a.take k).any (xB l)=false) a.length hn ⟨0,_,rfl,rfl,rfl,rfl,rfl,rfl,rfl,rfl⟩ ?_;rintro m s ⟨k,env,hmk,rfl,hel,e0,e1,e7,e8,hA⟩;simp only [ze];refine zc (tk:=[]) (by kernel_rfl) ?_
 simp only [zj,go_os_nil,ze,go_skip,zY,zw,peek,zb,opQ_val,zm,zp,zk,zE,zM,if_true,za,Nat.reduceLT,if_true,e7,e8,hel,kQ]
 by_cases hk:k<a.length
 ·refine .inl ⟨by simp;omega,?_⟩
  obtain ⟨r,hr⟩:∃ r,a[k]?=some r:=⟨a[k],by simp [hk]⟩
  have hv:=v69 (n:=n) (es:=[]) (r:=r) hb (by omega)
  have htk:a.take (k+1)=a.take k++[r]:=by rw [List.take_add_one,hr];rfl
  try simp only [go_skip,ze,zY]
  refine zc (tk:=[]) (by kernel_rfl) ?_
  simp only [zj,go_os_nil,ze,zi,zd,Nat.reduceEqDiff,peek,zh,kN,zb,zg,opQ_val,zm,zp,if_true,za,zAQ,Nat.reduceLT,if_true,if_false,e8,hel]
  refine zc (tk:=[]) (by kernel_rfl) ?_
  simp only [zj,go_os_nil,ze,go_skip,jO,zi,zo,zT,Nat.reduceEqDiff,peeks,zP,peek,zb,opQ_val,zm,zp,zk,wn,zAC,zAB,jW,qE,zE,zM,if_true,za,zAQ,Nat.reduceLT,if_true,if_false,e0,e1,hel,jB,zib,jW,zfy hr,zfz,znl,zia,hv]
  cases hof:xB l r with
  | false =>
   simp only [zAD,zA5,zBf,zAc];refine zc (tk:=[]) (by kernel_rfl) ?_
   simp only [zj,go_os_nil,zi,zw,Nat.reduceEqDiff,peek,ofVal,zb,opQ_val,zm,zp,if_true,za,zAQ,Nat.reduceLT,if_true,if_false,e8,hel,jh (show k<2 ^ 60 by omega),zx,thn_normal]
   refine ⟨m - 1,by omega,k+1,_,by omega,rfl,?_,?_,?_,?_,?_,?_⟩
   ·simp [hel]
   ·simp [za,e0]
   ·simp [za,e1]
   ·simp [za,e7]
   ·simp [za,hel]
   ·rw [htk,List.any_append,hA];simp [hof]
  | true =>
   simp only [zAc,zAz,zA5,zBr];refine zc (tk:=[]) (by kernel_rfl) ?_
   simp only [zj,go_os_nil,zi,zd,Nat.reduceEqDiff,peek,zh,kN,zb,zg,opQ_val,zm,zp,if_true,za,zAQ,Nat.reduceLT,if_true,if_false,hel]
   simp only [go_ret,zx,qw,jH,thn,Fx]
   refine ⟨trivial,[.int .i64 (k:Nat)],?_,trivial,_,rfl,?_⟩
   ·simp [zO,za,hel]
   ·refine iff_of_true (by omega) (List.any_eq_true.2 ⟨r,zAe hr,hof⟩)
 ·refine .inr ⟨by simp;omega,?_⟩
  obtain rfl:k=a.length:=by omega
  rw [zBd] at hA;simp only [vZ,kS,kg,zx,thn_exit,ze,zBJ,if_true,zx];refine zc (tk:=[]) (by kernel_rfl) ?_
  simp only [zj,go_os_nil,zd,zt,ofVal,zg,opQ_val,zm,zAB]
  simp only [go_ret,zx,Fx]
  refine ⟨trivial,[.int .i64 (-1)],?_,trivial,_,rfl,?_⟩
  ·simp [zO,za,hel]
  ·rw [hA];simp
theorem e68 {n:Nat} {bs:List Blk} {es:List (Nat×Nat)} {b:Nat} {nl al:Bool} {l:List Co} {a:List Int} (hb:nth bs b=some (.cells [qS nl l] 52)) (hn:a.length+1<n) (ha:a.length<2 ^ 60) :
  callA Tryz.prog glM (n+1) 68 [qx al a,zeQ b] ⟨bs,es⟩=some (.ret (.bool (a.any (xB l))),⟨bs,es⟩):=by
 refine qA (zcc rfl _) (fun H=>zbv rfl _ _ _) Tryz.func68 rfl ?_;obtain ⟨i,h99,hi⟩:=e99 (n:=n - 1) (es:=[]) (al:=al) hb (by omega) ha
 rw [show n - 1+1=n by omega] at h99
 have c99:=zV (gl:=glM.g) (uq:=glM.uq) Tryz.func99 rfl h99;have hgi:decide (i ≥ 0)=a.any (xB l):=by
  cases h:a.any (xB l) with
  | true=>exact decide_eq_true (hi.2 h)
  | false=>exact decide_eq_false fun h0=>by rw [hi.1 h0] at h;cases h
 simp only [Tryz.f68,ze];refine zc (tk:=[]) (by kernel_rfl) ?_
 simp only [zj,go_os_nil,ze,zd,zt,ofVal,zg,opQ_val,zm,zAB,zAT,List.length_nil,zAU,Nat.reduceAdd,zAY,zAV,zAG,zAH,List.replicate,Nat.reduceSub]
 refine zc (tk:=[]) (by kernel_rfl) ?_
 simp only [zj,go_os_nil,zi,zw,zd,z7,peeks,zP,peek,zh,ofVal,zA,zb,zg,opQ_val,zm,zp,zI,qE,zAX,zAm,zf,zn,zAG,zAH,jB,zib,c99,zjy,hgi]
 simp only [go_ret,zx,Vm.Fin]
 exact ⟨trivial,[.bool _],rfl,rfl,(zN rfl (zAW _)).symm⟩
def zcE (b:Nat):V:=.fn (.func 73) [] [.ptr b 0]
theorem zcF {env:List V} {t:Nat} {nl:Bool} {l:List Int}:jU env t (some (qx nl l))=some (qx nl l,env):=by
 rcases Sx.lv_cases 1 nl (ja l) with h|⟨h0,h⟩<;>rw [qx,h]<;>rfl
theorem zlw {env:List V} {t:Nat} {nl:Bool} {l:List Co}:jU env t (some (qS nl l))=some (qS nl l,env):=by
 rcases Sx.lv_cases 21 nl (l.map kM) with h|⟨h0,h⟩<;>rw [qS,h]<;>rfl
theorem zoC (nl:Bool) (l:List Int):okC (qx nl l)=true/\(qx nl l).laid=[qx nl l]:=by
 rcases Sx.lv_cases 1 nl (ja l) with h|⟨h0,h⟩<;>rw [qx,h]<;>exact ⟨rfl,rfl⟩
theorem zoD (nl:Bool) (l:List Co):okC (qS nl l)=true/\(qS nl l).laid=[qS nl l]:=by
 rcases Sx.lv_cases 21 nl (l.map kM) with h|⟨h0,h⟩<;>rw [qS,h]<;>exact ⟨rfl,rfl⟩
theorem e48 {n:Nat} {bs:List Blk} {es:List (Nat×Nat)} {nl:Bool} {l:List Int} :
  callA Tryz.prog glM (n+1) 48 [qx nl l] ⟨bs,es⟩=some (.ret (zcE bs.length),⟨bs++[.cells [qx nl l] 36],es⟩):=by
 suffices hmain:go ⟨Tryz.prog,glM.g,callA Tryz.prog glM n,glM.uq⟩ n (Fx Tryz.prog Tryz.f48.results.toList fun v H1=>v=zcE bs.length/\H1=⟨bs++[.cells [qx nl l] 36],[]⟩) [.c (Tryz.f48.body.getD .skip)] .normal ⟨[qx nl l]++List.replicate 3 (.tup []),⟨bs,[]⟩,[],[]⟩ by
  obtain ⟨v,H1,h1,rfl,rfl⟩:=j6 (gl:=glM) (f:=48) (bs:=bs) (es:=es) (args:=[qx nl l]) (n:=n) (zcc rfl _) (fun H=>zbv rfl _ _ _) Tryz.func48 rfl hmain;rw [h1];have:(zcE bs.length).top=bs.length+1:=by simp [zcE,V.top,tops]
  rw [this];simp only [qV];rw [if_neg]
  ·rfl
  ·simp only [zAF,not_and];intro hb;have:=zAi hb;omega
 have hbx:=zoC nl l;simp only [Tryz.f48,zAy,ze];refine zc (tk:=[]) (by kernel_rfl) ?_
 simp only [zj,go_os_nil,ze,kE,zd,zh,zt,ofVal,zg,opQ_val,zm,zAB,qK,zAY,zAV,zf,zAG,zAH,List.replicate,zcF,qM hbx.1,hbx.2]
 have htf:∀ env t b,jU env t (some (V.fn (.func 73) [] [.ptr b 0]))=some (.fn (.func 73) [] [.ptr b 0],env):=fun _ _ _=>rfl;refine zc (tk:=[]) (by kernel_rfl) ?_
 simp only [zj,go_os_nil,zd,peek,zh,zb,zg,opQ_val,zm,zv,zAB,zf,zn,zAG,zAH,zi2,htf]
 simp only [go_ret,zx,Fx]
 exact ⟨trivial,[zcE bs.length],rfl,rfl,trivial⟩
theorem s47 {n:Nat} {bs:List Blk} {es:List (Nat×Nat)} {b:Nat} {nl:Bool} {l:List Int} (hb:nth bs b=some (.cells [qx nl l] 36)) (hl:l.length * 8<=140737488355328) :
  callA Tryz.prog glM (n+1) 47 [zcE b] ⟨bs,es⟩=some (.ret (zi4 l),⟨bs,es⟩):=by
 refine zrA ?_;have hnum:numsOf (qx nl l)=some l:=by
  rcases Sx.lv_cases 1 nl (ja l) with h|⟨h0,h⟩<;>rw [qx,h]
  ·exact intsOf_int l
  ·have:l=[]:=by simpa [ja] using h0
   subst this;rfl
 simp only [zh4,zcE,hb,hnum,hl,if_true]
end Go.Proofs.YtlnijcffanjieaaGreatDoor
namespace Go.Proofs.YtlnijcffanjieaaGreatDoor
set_option maxRecDepth 100000
open Go Go.Vm
theorem fo89_0:qz Tryz.prog 89 0=some 0:=by kernel_rfl
theorem fo89_1:qz Tryz.prog 89 1=some 10:=by kernel_rfl
theorem fo89_2:qz Tryz.prog 89 2=some 11:=by kernel_rfl
theorem zi9 (c:Co):(qf c).map clr=qf c:=by simp [qf,yD,clr]
theorem z89:∃ z,qT Tryz.prog 89=some z/\okC z=true/\z.cells.length=21/\z.cells.all (fun c=>!(locked c))=true:=by
 refine ⟨_,(show qT Tryz.prog 89=some (kM ⟨.mk 0 0 0 0 0 0 [] 0 0 true [],false,.mk 0 0 0 0 0 0 [] 0 0 true []⟩) by kernel_rfl),rfl,rfl,rfl⟩
theorem alc89:∃ cs,(cs.length=21/\cs.all (fun c=>!(locked c))=true)/\∀ {env:List V} {H:Hp} {lk:List (Nat×Nat)} {df:List (V×List V)},zhK 89 env H lk df (qT Tryz.prog 89)=some (.val (.ptr H.blks.length 0),⟨env,H.push (.cells cs 89),lk,df⟩):=by
 obtain ⟨z,h1,h2,h3,h4⟩:=z89;exact ⟨z.cells,⟨h3,h4⟩,by rw [h1];exact zaW h2⟩
theorem zqS {bs:List Blk} {es:List (Nat×Nat)} {cs:List V} {c:Co} {env:List V} {lk:List (Nat×Nat)} {df:List (V×List V)} (h1:cs.length=21) (h2:cs.all (fun c=>!(locked c))=true):jq Tryz.prog 89 ⟨bs++[.cells cs 89],es⟩ lk df (some (kM c,env)) (some (.ptr bs.length 0))=some (.skip,⟨env,⟨bs++[.cells (qf c) 89],es⟩,lk,df⟩):=by
 have hl:(kM c).laid=qf c:=zi9 c;rw [kT sz89 (H:=⟨bs++[Blk.cells cs 89],es⟩) (b:=bs.length) (off:=0) (cs:=cs) (ty:=89) Vm.get_at0 rfl (by rw [hl,vg]) (by omega) (zaz h2 (by omega)),wY (zcb c),hl,zj8 (by rw [vg,h1]),zaZ]
theorem zlx {env:List V} {t:Nat} {c:Co}:jU env t (some (kM c))=some (kM c,env):=rfl
theorem zex (c:Co):clr (kM c)=kM c:=rfl
theorem zqT {bs:List Blk} {es:List (Nat×Nat)} {g:Nat->Nat->Option V} {c:Co}:zF Tryz.prog ⟨bs++[.cells (qf c) 89],es⟩ g 27 (.ptr bs.length 0)=some (enc c.hd):=by
 rw [vF (H:=⟨bs++[Blk.cells (qf c) 89],es⟩) (b:=bs.length) (off:=0) (cs:=qf c) (ty:=89) ag27 sz27 Vm.get_at0 (by rw [vg];decide),qt]
 simp only [zBc,qf];rw [zBQ (by rw [qm];decide),zA6 (by rw [qm];decide)]
theorem zkp {bs:List Blk} {es:List (Nat×Nat)} {g:Nat->Nat->Option V} {c:Co}:zF Tryz.prog ⟨bs++[.cells (qf c) 89],es⟩ g 4 (.ptr bs.length 10)=some (.bool c.ht):=by
 refine zW (H:=⟨bs++[Blk.cells (qf c) 89],es⟩) (b:=bs.length) (off:=10) (cs:=qf c) (ty:=89) ag4 Vm.get_at0 ?_;rw [zr,qf,zAd (by rw [qm];decide),qm];rfl
theorem znn {bs:List Blk} {es:List (Nat×Nat)} {g:Nat->Nat->Option V} {c:Co}:zF Tryz.prog ⟨bs++[.cells (qf c) 89],es⟩ g 27 (.ptr bs.length 11)=some (enc c.tl):=by
 rw [vF (H:=⟨bs++[Blk.cells (qf c) 89],es⟩) (b:=bs.length) (off:=11) (cs:=qf c) (ty:=89) ag27 sz27 Vm.get_at0 (by rw [vg];decide),qt]
 have:(qf c).drop 11=ecells c.tl:=by
  rw [qf,List.drop_append,qm,zBe (by rw [qm];decide)];rfl
 rw [this,zA6 (by rw [qm];decide)]
theorem c11 {n:Nat} (hn:1<=n) {e:E} (h:GdE e) (H:Hp):Cx.callF ⟨Tryz.prog,glM.g,callA Tryz.prog glM n,glM.uq⟩ 11 [enc e] H=some (.val (.bool (vd e)),H):=by
 obtain ⟨m,rfl⟩:∃ m,n=m+1:=⟨n - 1,by omega⟩
 exact zV Tryz.func11 rfl (yB (zpW h))
theorem c70 {n:Nat} (hn:1<=n) {e:E} (h:Can e) (H:Hp):Cx.callF ⟨Tryz.prog,glM.g,callA Tryz.prog glM n,glM.uq⟩ 70 [enc e] H=some (.val (.bool (zeroM e)),H):=by
 obtain ⟨m,rfl⟩:∃ m,n=m+1:=⟨n - 1,by omega⟩
 exact zV Tryz.func70 rfl (yB (zpX h))
def zad (c:Co):Bool:=vd c.hd && (if c.ht then vd c.tl else zeroM c.tl)
def ya (l:List Co) (a:List Int) (t:Nat):Bool:=decide (t<=65536) && decide (l.length<=200) && !(a.any (xB l)) && l.all zad
theorem e46 {n:Nat} {nl al tl:Bool} {l:List Co} {a:List Int} {t:List Nat} (hn:a.length+l.length+2<n) (ha:a.length<2 ^ 60) (hl:l.length<2 ^ 60) (hc:∀ c∈l,GdC c) :
  callA Tryz.prog glM (n+1) 46 [qS nl l,qx al a,qD tl t] ⟨[],[]⟩=some (.ret (.bool (ya l a t.length)),⟨[],[]⟩):=by
 suffices hmain:go ⟨Tryz.prog,glM.g,callA Tryz.prog glM n,glM.uq⟩ n (Fx Tryz.prog Tryz.f46.results.toList fun u H1=>u=.bool (ya l a t.length)/\H1.edges=[]) [.c (Tryz.f46.body.getD .skip)] .normal ⟨[qS nl l,qx al a,qD tl t]++List.replicate 51 (.tup []),⟨[],[]⟩,[],[]⟩ by
  obtain ⟨u,⟨bs,es⟩,h1,rfl,rfl⟩:=j6 (gl:=glM) (f:=46) (bs:=[]) (es:=[]) (args:=[qS nl l,qx al a,qD tl t]) (n:=n) (zcc rfl _) (fun H=>zbv rfl _ _ _) Tryz.func46 rfl hmain;rw [h1];have:=qH (bs:=[]) (ls:=bs) (es:=[]) (t:=0) (zAR _);rw [zAV] at this;exact congrArg some (congrArg (Prod.mk _) this)
 have hbx:=zoD nl l;simp only [Tryz.f46,zAy,ze];refine zc (tk:=[]) (by kernel_rfl) ?_
 simp only [zj,go_os_nil,ze,kE,zd,zh,zt,ofVal,zg,opQ_val,zm,zAB,qK,List.length_nil,zAY,zAV,zf,zAG,zAH,List.replicate,zlw,qM hbx.1,hbx.2]
 have hld:∀ g,zF Tryz.prog ⟨[.cells [qS nl l] 52],[]⟩ g 52 (.ptr 0 0)=some (qS nl l):=fun g=>zqR rfl;have h68:=e68 (n:=n - 1) (es:=[]) (al:=al) (a:=a) (bs:=[.cells [qS nl l] 52]) (b:=0) rfl (by omega) ha
 rw [show n - 1+1=n by omega] at h68
 have c68:=zV (gl:=glM.g) (uq:=glM.uq) Tryz.func68 rfl h68;simp only [zeQ] at c68;refine zc (tk:=[]) (by kernel_rfl) ?_
 by_cases h1:(t.length:Int) > 65536
 ·have d1:decide ((t.length:Int) > 65536)=true:=decide_eq_true h1;have h1':¬ t.length<=65536:=by omega
  simp only [zj,go_os_nil,ze,go_skip,zi,zo,zw,zX,qY,z7,peeks,zP,peek,ofVal,zb,opQ_val,zm,zp,zk,zv,zAC,zAB,zI,qE,zAX,zAm,zAc,zE,zM,qk,zf,zn,zAG,zAH,qI,zJ,z8,wantB_ft,wd,q6,zaC,wj,d1]
  refine .inl ?_;refine zc (tk:=[]) (by kernel_rfl) ?_
  simp only [zj,go_os_nil,zd,zt,ofVal,zg,opQ_val,zm,zAB,zAG,zAH]
  simp only [go_ret,zx,qw,Fx]
  exact ⟨trivial,[.bool false],rfl,by simp [ya,tupOf,h1'],trivial⟩
 have d1:decide ((t.length:Int) > 65536)=false:=decide_eq_false h1
 by_cases h2:(l.length:Int) > 200
 ·have d2:decide ((l.length:Int) > 200)=true:=decide_eq_true h2;have h2':¬ l.length<=200:=by omega
  simp only [zj,go_os_nil,ze,go_skip,zi,zo,zw,zX,qY,z7,peeks,zP,peek,ofVal,zb,opQ_val,zm,zp,zk,zv,zAC,zAB,zI,qE,zAX,zAm,zAc,zE,zM,qk,ql,zf,zn,zAG,zAH,qI,zJ,z8,wantB_ft,wantB_ff,kW,wd,q6,zaC,wj,d1,d2,hld,ki,zko]
  refine .inl ?_;refine zc (tk:=[]) (by kernel_rfl) ?_
  simp only [zj,go_os_nil,zd,zt,ofVal,zg,opQ_val,zm,zAB,zAG,zAH]
  simp only [go_ret,zx,qw,Fx]
  exact ⟨trivial,[.bool false],rfl,by simp [ya,tupOf,h2'],trivial⟩
 have d2:decide ((l.length:Int) > 200)=false:=decide_eq_false h2;simp only [zj,go_os_nil,ze,go_skip,zi,zo,zw,zX,qY,z7,peeks,zP,peek,ofVal,zb,opQ_val,zm,zp,zk,zv,zAC,zAB,zI,qE,zAX,zAm,zE,zM,ql,zf,zn,zAG,zAH,qI,zJ,z8,wantB_ff,kW,q6,zaC,wj,d1,d2,hld,ki,zko,jB,zi2,zpp,c68]
 have h1':t.length<=65536:=by omega
 have h2':l.length<=200:=by omega
 cases hany:a.any (xB l) with
 | true =>
  refine .inl ⟨rfl,?_⟩;refine zc (tk:=[]) (by kernel_rfl) ?_
  simp only [zj,go_os_nil,zd,zt,ofVal,zg,opQ_val,zm,zAB,zAG,zAH]
  simp only [go_ret,zx,qw,Fx]
  exact ⟨trivial,[.bool false],rfl,by simp [ya,tupOf,hany],trivial⟩
 | false =>
 refine .inr ⟨rfl,?_⟩
 try simp only [go_skip]
 refine zc (tk:=[]) (by kernel_rfl) ?_
 simp only [zj,go_os_nil,zY,zi,zo,qY,peek,ofVal,zb,opQ_val,zm,zv,zAC,zAB,zf,zn,zAG,zAH,hld,ki,zko]
 obtain ⟨cz,⟨hz1,hz2⟩,hz3⟩:=alc89;refine v6 (fun m s=>∃ k env B,m+k=l.length/\s=⟨env,⟨B,[]⟩,[],[]⟩/\env.length=54/\nth env 22=some (qS nl l)/\nth env 23=some (.int .i64 l.length)/\nth env 24=some (.int .i64 (k:Nat))/\(l.take k).all zad=true) l.length (by omega) ⟨0,_,_,rfl,rfl,rfl,rfl,rfl,rfl,rfl⟩ ?_
 rintro m s ⟨k,env,B,hmk,rfl,hel,e22,e23,e24,hA⟩;simp only [ze];refine zc (tk:=[]) (by kernel_rfl) ?_
 simp only [zj,go_os_nil,ze,go_skip,zY,zw,peek,zb,opQ_val,zm,zp,zk,zE,zM,if_true,za,Nat.reduceLT,if_true,e23,e24,hel,kQ]
 by_cases hk:k<l.length
 ·refine .inl ⟨by simp;omega,?_⟩
  obtain ⟨c,hck⟩:∃ c,l[k]?=some c:=⟨l[k],by simp [hk]⟩
  obtain ⟨⟨g1,_⟩,g2,_⟩:=hc c (zAe hck);have htk:l.take (k+1)=l.take k++[c]:=by rw [List.take_add_one,hck];rfl
  have x11:=c11 (n:=n) (by omega) g1 ⟨B++[.cells (qf c) 89],[]⟩
  have y11:=c11 (n:=n) (by omega) g2 ⟨B++[.cells (qf c) 89],[]⟩
  have y70:=c70 (n:=n) (by omega) g2.2 ⟨B++[.cells (qf c) 89],[]⟩
  have hbad:zad c=false->ya l a t.length=false:=fun h=>by
   have:l.all zad=false:=by
    cases h':l.all zad with
    | false=>rfl
    | true=>rw [zA4.1 h' c (zAe hck)] at h;cases h
   simp [ya,this]
  have hN:∀ env',env'.length=54->nth env' 22=some (qS nl l)->nth env' 23=some (.int .i64 l.length)->nth env' 24=some (.int .i64 ((k+1:Nat):Int))->zad c=true ->
    ∃ i,i<m/\∃ k env B',i+k=l.length/\(⟨env',⟨B++[.cells (qf c) 89],[]⟩,[],[]⟩:St)=⟨env,⟨B',[]⟩,[],[]⟩/\env.length=54/\nth env 22=some (qS nl l)/\nth env 23=some (.int .i64 l.length)/\nth env 24=some (.int .i64 (k:Nat))/\(l.take k).all zad=true :=
   fun env' f0 f1 f2 f3 f4=>⟨m - 1,by omega,k+1,env',_,by omega,rfl,f0,f1,f2,f3,by rw [htk,List.all_append,hA];simp [f4]⟩
  try simp only [go_skip,ze,zY]
  refine zc (tk:=[]) (by kernel_rfl) ?_
  simp only [zj,go_os_nil,ze,zo,jk,zG,zT,Nat.reduceEqDiff,peek,zh,zb,opQ_val,opQ_skip,zm,zp,zv,wn,zAC,zAB,jW,qK,if_true,za,zAQ,Nat.reduceLT,if_true,if_false,e22,e24,hel,ki,jW,znm hck,zi8,zex,hz3,zlx,zqS hz1 hz2]
  refine zgw (fun s=>∃ env,s=⟨env,⟨B++[.cells (qf c) 89],[]⟩,[],[]⟩/\env.length=54/\nth env 22=some (qS nl l)/\nth env 23=some (.int .i64 l.length)/\nth env 24=some (.int .i64 (k:Nat))/\nth env 52=some (.bool (!zad c))) ?_ ?_
  ·refine zc (tk:=[]) (by kernel_rfl) ?_
   refine go_env (fun env=>env.length=54/\nth env 22=some (qS nl l)/\nth env 23=some (.int .i64 l.length)/\nth env 24=some (.int .i64 (k:Nat))/\nth env 8=some (.ptr B.length 0)) ⟨by simp [hel],by simp [za,e22],by simp [za,e23],by simp [za,e24],by simp [za,hel]⟩ ?_
   clear hel e22 e23 e24 env;rintro env ⟨hel,e22,e23,e24,e8⟩;refine zhT 5 (fun s=>∃ env,s=⟨env,⟨B++[.cells (qf c) 89],[]⟩,[],[]⟩/\env.length=54/\nth env 22=some (qS nl l)/\nth env 23=some (.int .i64 l.length)/\nth env 24=some (.int .i64 (k:Nat))/\nth env 8=some (.ptr B.length 0)/\nth env 32=some (.bool (!vd c.hd))) ?_ ?_
   ·simp only [List.take_succ_cons,List.take_zero];simp only [zj,go_os_nil,zi,zo,kO,zl,z7,Nat.reduceEqDiff,peeks,zP,peek,zb,opQ_val,zm,zk,zv,zAC,zAB,zu,zU,zI,qE,zAX,zAm,zAx,if_true,za,zAQ,Nat.reduceLT,if_true,if_false,e8,hel,fo89_0,zqT,wO,x11,unA,zx,zgx]
    exact ⟨_,rfl,by simp [hel],by simp [za,e22],by simp [za,e23],by simp [za,e24],by simp [za,e8],by simp [za,hel]⟩
   clear hel e22 e23 e24 e8 env;rintro s ⟨env,rfl,hel,e22,e23,e24,e8,e32⟩;simp only [List.drop_succ_cons,zBc];refine zhT 9 (fun s=>∃ env,s=⟨env,⟨B++[.cells (qf c) 89],[]⟩,[],[]⟩/\env.length=54/\nth env 22=some (qS nl l)/\nth env 23=some (.int .i64 l.length)/\nth env 24=some (.int .i64 (k:Nat))/\nth env 8=some (.ptr B.length 0)/\nth env 41=some (.bool (!(vd c.hd) || (c.ht && !(vd c.tl))))) ?_ ?_
   ·simp only [List.take_succ_cons,List.take_zero];cases hhd:vd c.hd with
    | false =>
     rw [hhd] at e32;simp only [zj,go_os_nil,zi,zo,kO,zX,zl,z7,Nat.reduceEqDiff,peeks,zP,peek,ofVal,zb,opQ_val,zm,zk,zv,zAC,zAB,zI,qE,zAX,zAm,if_true,qk,za,zAQ,Nat.reduceLT,if_true,if_false,zf,zn,qI,zJ,z8,wantB_ft,wd,zBB,e8,e32,hel,zx,zgx]
     exact ⟨_,rfl,by simp [hel],by simp [za,e22],by simp [za,e23],by simp [za,e24],by simp [za,e8],by simp [za,hel]⟩
    | true =>
    rw [hhd] at e32;cases hht:c.ht with
    | true =>
     simp only [zj,go_os_nil,zi,zo,kO,zX,zl,z7,Nat.reduceEqDiff,peeks,zP,peek,ofVal,zb,opQ_val,zm,zk,zv,zAC,zAB,zu,zU,zI,qE,zAX,zAm,zAU,if_true,qk,ql,za,zAQ,Nat.reduceLT,if_true,if_false,zf,zn,qI,zJ,z8,wantB_tt,wantB_ff,kW,zAq,e8,e32,hel,fo89_1,fo89_2,zkp,znn,wO,hht,y11,unA,zx,zgx]
     exact ⟨_,rfl,by simp [hel],by simp [za,e22],by simp [za,e23],by simp [za,e24],by simp [za,e8],by simp [za,hel]⟩
    | false =>
     simp only [zj,go_os_nil,zi,zo,kO,zX,zl,z7,Nat.reduceEqDiff,peeks,zP,peek,ofVal,zb,opQ_val,zm,zk,zv,zAC,zAB,zu,zU,zI,qE,zAX,zAm,zAU,if_true,ql,za,zAQ,Nat.reduceLT,if_true,if_false,zf,zn,qI,zJ,z8,wantB_tf,wantB_ff,kW,wd,zAq,e8,e32,hel,fo89_1,fo89_2,zkp,znn,wO,hht,unA,zx,zgx]
     exact ⟨_,rfl,by simp [hel],by simp [za,e22],by simp [za,e23],by simp [za,e24],by simp [za,e8],by simp [za,hel]⟩
   clear hel e22 e23 e24 e8 e32 env;rintro s ⟨env,rfl,hel,e22,e23,e24,e8,e41⟩;simp only [List.drop_succ_cons,zBc];cases hb:(!(vd c.hd) || (c.ht && !(vd c.tl))) with
   | true =>
    have hok:zad c=false:=by revert hb;simp only [zad];cases vd c.hd<;>cases c.ht<;>cases vd c.tl<;>simp
    rw [hb] at e41;simp only [zj,go_os_nil,zi,zo,kO,zX,zl,z7,Nat.reduceEqDiff,peeks,zP,peek,ofVal,zb,opQ_val,zm,zk,zv,zAC,zAB,zI,qE,zAX,zAm,if_true,qk,za,zAQ,Nat.reduceLT,if_true,if_false,zf,zn,qI,zJ,z8,wantB_ft,wd,zBB,e8,e41,hel,zx,xQ,hok]
    exact ⟨_,rfl,by simp [hel],by simp [za,e22],by simp [za,e23],by simp [za,e24],by simp [za,hel]⟩
   | false =>
   rw [hb] at e41;cases hht:c.ht with
   | true =>
    have hok:zad c=true:=by revert hb;simp only [zad,hht];cases vd c.hd<;>cases vd c.tl<;>simp
    simp only [zj,go_os_nil,zi,zo,kO,zX,zl,z7,Nat.reduceEqDiff,peeks,zP,peek,ofVal,zb,opQ_val,zm,zk,zv,zAC,zAB,zu,zU,zI,qE,zAX,zAm,zAU,if_true,ql,za,zAQ,Nat.reduceLT,if_true,if_false,zf,zn,qI,zJ,z8,wantB_tf,wantB_ff,kW,wd,zAq,e8,e41,hel,fo89_1,zkp,hht,unA,zx,xQ,hok]
    exact ⟨_,rfl,by simp [hel],by simp [za,e22],by simp [za,e23],by simp [za,e24],by simp [za,hel]⟩
   | false =>
    have hok:zad c=zeroM c.tl:=by revert hb;simp only [zad,hht];cases vd c.hd<;>simp
    simp only [zj,go_os_nil,zi,zo,kO,zX,zl,z7,Nat.reduceEqDiff,peeks,zP,peek,ofVal,zb,opQ_val,zm,zk,zv,zAC,zAB,zu,zU,zI,qE,zAX,zAm,zAU,if_true,qk,ql,za,zAQ,Nat.reduceLT,if_true,if_false,zf,zn,qI,zJ,z8,wantB_tt,wantB_ff,kW,zBB,e8,e41,hel,fo89_1,fo89_2,zkp,znn,wO,y70,hht,unA,zx,xQ,hok]
    exact ⟨_,rfl,by simp [hel],by simp [za,e22],by simp [za,e23],by simp [za,e24],by simp [za,hel]⟩
  ·rintro s ⟨env,rfl,hel,e22,e23,e24,e52⟩;cases hok:zad c with
   | false =>
    rw [hok] at e52;simp only [ze,go_skip,jO,peek,zk,zE,zM,e52]
    refine .inl ⟨rfl,?_⟩
    try simp only [ze]
    refine zc (tk:=[]) (by kernel_rfl) ?_
    simp only [zj,go_os_nil,zd,zt,ofVal,zg,opQ_val,zm,zAB]
    simp only [go_ret,zx,qw,jH,thn,Fx]
    refine ⟨trivial,[.bool false],?_,?_,trivial⟩
    ·simp [zO,za,hel]
    ·simp [hbad hok,tupOf]
   | true =>
    rw [hok] at e52;simp only [ze,go_skip,jO,peek,zk,zE,zM,e52]
    refine .inr ⟨rfl,?_⟩
    try simp only [go_skip,jO]
    refine zc (tk:=[]) (by kernel_rfl) ?_
    simp only [zj,go_os_nil,zi,zw,peek,ofVal,zb,opQ_val,zm,zp,if_true,za,Nat.reduceLT,if_true,e24,hel,jh (show k<2 ^ 60 by omega),zx,thn_normal]
    refine hN _ ?_ ?_ ?_ ?_ hok
    ·simp [hel]
    ·simp [za,e22]
    ·simp [za,e23]
    ·simp [za,hel]
 ·refine .inr ⟨by simp;omega,?_⟩
  obtain rfl:k=l.length:=by omega
  rw [zBd] at hA;simp only [vZ,kS,kg,zx,thn_exit,ze,zBJ,if_true,zx];refine zc (tk:=[]) (by kernel_rfl) ?_
  simp only [zj,go_os_nil,zd,zt,ofVal,zg,opQ_val,zm,zAB]
  simp only [go_ret,zx,Fx]
  refine ⟨trivial,[.bool true],?_,?_,trivial⟩
  ·simp [zO,za,hel]
  ·simp [ya,h1',h2',hany,tupOf];exact fun x hx=>zA4.1 hA x hx
end Go.Proofs.YtlnijcffanjieaaGreatDoor
namespace Go.Proofs.YtlnijcffanjieaaGreatDoor
open Go Go.Vm
theorem goEnds_gt:∀ (t:List Nat) (w:Wd) (i x:Nat),x∈goEnds w i t->i<x
 | [],_,_,_,h=>by simp [goEnds] at h
 | b::t,w,i,x,h=>by
  simp only [goEnds,zAt] at h;rcases h with h|h
  ·split at h
   ·simp at h;omega
   ·cases h
  ·have:=goEnds_gt t _ _ _ h;omega
theorem goEnds_len:∀ (t:List Nat) (w:Wd) (i:Nat),(goEnds w i t).length<=t.length
 | [],_,_=>by simp [goEnds]
 | b::t,w,i=>by
  have:=goEnds_len t (stW w (i == 0) b).1 (i+1);simp only [goEnds,zAn,zAT];split<;>simp<;>omega
theorem zno (w:Wd) (t:List Nat):(zaa w t).length<=t.length+1:=by
 have:=goEnds_len t w 0;simp only [zaa,zAn];split<;>simp<;>omega
theorem zic (e:E) (t:List Nat):(wQ e t).length<=t.length+1:=by
 unfold wQ;split
 ·exact zno ..
 ·simp
end Go.Proofs.YtlnijcffanjieaaGreatDoor
namespace Go.Proofs.YtlnijcffanjieaaGreatDoor
open Go Go.Vm
abbrev Wo:=List Nat
inductive Plus (L:Wo->Prop):Wo->Prop
 |one {u:Wo}:L u->Plus L u
 |more {u v:Wo}:L u->Plus L v->Plus L (u++v)
theorem Plus.app {L:Wo->Prop} {u v:Wo} (h:Plus L u) (k:Plus L v):Plus L (u++v):=by
 induction h with
 | one h=>exact .more h k
 | more h _ ih=>rw [zAk];exact .more h ih
theorem Plus.mono {L M:Wo->Prop} {u:Wo} (hm:∀ u,L u->M u) (h:Plus L u):Plus M u:=by
 induction h with
 | one h=>exact .one (hm _ h)
 | more h _ ih=>exact .more (hm _ h) ih
theorem Plus.nil {L:Wo->Prop} {u:Wo} (h:Plus L u) (hu:u=[]):L []:=by
 induction h with
 | one h=>rw [hu] at h;exact h
 | more h _ ih=>rw [List.append_eq_nil_iff] at hu;rw [<- hu.1];exact h
def rn (w:Wd) (bg:Nat->Bool) (t:Nat->Nat):Nat->Wd
 | 0=>w
 | n+1=>(stW (rn w bg t n) (bg n) (t n)).1
end Go.Proofs.YtlnijcffanjieaaGreatDoor
namespace Go.Proofs.YtlnijcffanjieaaGreatDoor
open Go Go.Vm
end Go.Proofs.YtlnijcffanjieaaGreatDoor
namespace Go.Proofs.YtlnijcffanjieaaGreatDoor
open Go Go.Vm
mutual
def Lang:E->Wo->Prop
 | .mk op _ s0 s1 s2 s3 _ mn mx _ args=>fun u =>
  if op=2 then ∃ c,u=[c]/\zcy (s0,s1,s2,s3) c=true
  else if op=5 then LCat args u
  else if op=6 then LAlt args u
  else if op=7 then (mn=0/\u=[])\/(if mx<0 then Plus (LHead args) u else LHead args u)
  else u=[]
def LCat:List E->Wo->Prop
 | []=>fun u=>u=[]
 | e::l=>fun u=>∃ x y,u=x++y/\Lang e x/\LCat l y
def LAlt:List E->Wo->Prop
 | []=>fun _=>False
 | e::l=>fun u=>Lang e u\/LAlt l u
def LHead:List E->Wo->Prop
 | []=>fun _=>False
 | e::_=>Lang e
end
end Go.Proofs.YtlnijcffanjieaaGreatDoor
namespace Go.Proofs.YtlnijcffanjieaaGreatDoor
open Go Go.Vm
structure Fine (e:E):Prop where
 wf:Wf e
 can:Can e
 rg:Rg e
 cor:Cor e
theorem zqU {l:List E} (h:∀ a∈l,Fine a):Wfs l/\Cans l/\Rgs l/\Cors l:=by
 induction l with
 | nil=>exact ⟨trivial,trivial,trivial,trivial⟩
 | cons a l ih =>
  have ha:=h a (zAN ..);obtain ⟨h1,h2,h3,h4⟩:=ih fun b hb=>h b (zAE _ hb);exact ⟨⟨ha.wf,h1⟩,⟨ha.can,h2⟩,⟨ha.rg,h3⟩,⟨ha.cor,h4⟩⟩
theorem ml9:9<=maxLen:=by decide
theorem znp {l:List E} (h:∀ a∈l,Fine a) (h1:2<=l.length) (h2:l.length<=9):Fine (zpS l):=by
 obtain ⟨f1,f2,f3,f4⟩:=zqU h;have:=ml9;refine ⟨⟨by simp,by omega,f1⟩,⟨by simp,f2⟩,⟨by decide,f3⟩,⟨rfl,?_,by omega,f4⟩⟩
 have:Sx.ltz 1 (l.length:Int)=true:=Sx.ltz_t (by omega)
 simp [kindB,this]
variable (A B C:E)
variable {A B C}
structure Pair (l r:E):Prop where
 lf:Fine l
 rf:Fine r
 ln:nodes l<=4000
 rn:nodes r<=4000
 same:∀ u,Lang l u ↔ Lang r u
end Go.Proofs.YtlnijcffanjieaaGreatDoor
namespace Go.Proofs.YtlnijcffanjieaaGreatDoor
set_option maxRecDepth 100000
open Go Go.Vm
def zL (L:List Nat):List Int:=L.map Int.ofNat
theorem zpZ (L:List Nat):clr (qF 1 3 (jQ L))=qx true (zL L):=by
 rw [zkj];simp only [nvL,qx,jQ,ja,zL,List.map_map];rfl
theorem zey (a:List Int):(jG a).Perm a:=List.mergeSort_perm _ _
theorem xU (a:List Int):(jG a).length=a.length:=List.length_mergeSort _
theorem zoE (a:List Int):zi4 a=qx true (jG a):=by
 unfold zi4 qx Sx.lv;cases a with
 | nil=>simp [jG,ja]
 | cons x a =>
  have:(ja (jG (x::a))).isEmpty=false:=by
   have:=xU (x::a);cases h:jG (x::a) with
   | nil=>rw [h] at this;simp at this
   | cons y b=>rfl
  simp [this]
theorem zqV {e:E} (hc:Cor e) (hr:Rg e) {nl:Bool} {t:List Nat} (ht:∀ b∈t,b<256) (htl:t.length<=65536) {n:Nat} (hn:2 * YtlnijcffanjieaaGreatDoor.hg e+t.length+2<=n) (bs:List Blk) (es:List (Nat×Nat)) :
  ∃ v H1 bs2 es2,callA Tryz.prog glM n 45 [enc e] ⟨bs,es⟩=some (.ret v,H1)/\clr v=v/\callA Tryz.prog glM n 44 [v,qD nl t] H1=some (.ret (qx true (zL (wQ e t))),⟨bs2,es2⟩):=by
 obtain ⟨m,rfl⟩:∃ m,n=m+1:=⟨n - 1,by omega⟩
 obtain ⟨v,bs',es',h45,hnew,hes,hres⟩:=zkh GWb.toGW _ e (zAR _) hc m (by omega) bs es
 rw [<- zpZ];cases hfw:foW e with
 | none =>
  rw [hfw] at hres;obtain rfl:v=.nili:=hres;refine ⟨_,_,bs',es'++es,zoB (.inr rfl) h45,rfl,zoB (.inl rfl) ?_⟩;have:=zki GWb.toGW (n:=m) (bs:=bs') (es:=es'++es) (nl:=nl) (t:=t);rw [this];simp [wQ,hfw,jQ,qF,clr]
 | some w =>
  rw [hfw] at hres;obtain ⟨hi,hhi,hat⟩:=hres;have hFW:=foW_FW _ e w (zAR _) hfw;obtain ⟨bs2,h44,_,_⟩:=e44 GWb.toGW (n:=m) (es:=es'++es) (nl:=nl) (t:=t) hat (foW_rg _ e w (zAR _) hc hr hfw) hhi (by omega) (by omega) ht htl
  obtain ⟨vt,vu,rfl⟩:=hat.ifc;refine ⟨_,_,bs2,es'++es,zoB (.inr rfl) h45,rfl,zoB (.inl rfl) ?_⟩;rw [h44];simp [wQ,hfw]
theorem zid {c:Co} (hg:GdC c) (hk:zad c=true):Cor (kj c)/\Rg (kj c):=by
 obtain ⟨⟨g1,r1⟩,g2,r2⟩:=hg;simp only [zad,zAF] at hk;have c1:=zdq hk.1;unfold kj;cases hh:c.ht with
 | false=>simp;exact ⟨c1,r1⟩
 | true =>
  rw [hh] at hk;have c2:=zdq hk.2
  have:=znp (l:=[c.hd,c.tl]) (fun a ha=>by
   rcases zAM.1 ha with rfl|ha
   ·exact ⟨g1.1,g1.2,r1,c1⟩
   ·simp at ha;subst ha;exact ⟨g2.1,g2.2,r2,c2⟩) (by simp) (by simp)
  simp;exact ⟨this.cor,this.rg⟩
def zba (l:List Co) (t:List Nat) (r:Int):Option Nat:=match l[r.toNat]? with|some c=>(wQ (kj c) t).getLast?|none=>none
def zie (l:List Co) (t:List Nat):List Int->Int
 | []=>-1
 | r::rs=>if zba l t r=some t.length then r else zie l t rs
def zc9 (l:List Co) (a:List Int) (t:List Nat):Int:=zie l t (jG a)
def zez (l:List Co) (a:List Int) (t:List Nat):V:=if ya l a t.length then .tup [.int .i64 (zc9 l a t),.nili] else .tup [.int .i64 0,erA]
structure Fuel (l:List Co) (a:List Int) (t:List Nat) (n:Nat):Prop where
 al:a.length+l.length+5<n
 e:∀ c∈l,2 * YtlnijcffanjieaaGreatDoor.hg (kj c)+t.length+2<=n
theorem m46 {n:Nat} {nl al tl:Bool} {l:List Co} {a:List Int} {t:List Nat} (hn:Fuel l a t n) (ha:a.length<2 ^ 60) (hl:l.length<2 ^ 60) (hc:∀ c∈l,GdC c) :
  Cx.callF ⟨Tryz.prog,glM.g,callA Tryz.prog glM n,glM.uq⟩ 46 [qS nl l,qx al a,qD tl t] ⟨[],[]⟩=some (.val (.bool (ya l a t.length)),⟨[],[]⟩):=by
 have:=hn.al;obtain ⟨m,rfl⟩:∃ m,n=m+1:=⟨n - 1,by omega⟩
 exact zV Tryz.func46 rfl (e46 (by omega) ha hl hc)
theorem m48 {n:Nat} (hn:1<=n) {al:Bool} {a:List Int}:Cx.callF ⟨Tryz.prog,glM.g,callA Tryz.prog glM n,glM.uq⟩ 48 [qx al a] ⟨[],[]⟩=some (.val (zcE 0),⟨[.cells [qx al a] 36],[]⟩):=by
 obtain ⟨m,rfl⟩:∃ m,n=m+1:=⟨n - 1,by omega⟩
 exact zV Tryz.func48 rfl e48
theorem m47 {n:Nat} (hn:1<=n) {al:Bool} {a:List Int} (ha:a.length * 8<=140737488355328):Cx.callF ⟨Tryz.prog,glM.g,callA Tryz.prog glM n,glM.uq⟩ 47 [zcE 0] ⟨[.cells [qx al a] 36],[]⟩=some (.val (qx true (jG a)),⟨[.cells [qx al a] 36],[]⟩):=by
 obtain ⟨m,rfl⟩:∃ m,n=m+1:=⟨n - 1,by omega⟩
 rw [<- zoE];exact zV Tryz.func47 rfl (s47 rfl ha)
theorem m49 {n:Nat} (hn:1<=n) {c:Co} (h:zc8 c) (H:Hp):Cx.callF ⟨Tryz.prog,glM.g,callA Tryz.prog glM n,glM.uq⟩ 49 [kM c] H=some (.val (enc (kj c)),H):=by
 obtain ⟨m,rfl⟩:∃ m,n=m+1:=⟨n - 1,by omega⟩
 exact zV Tryz.func49 rfl (yB (zpY h))
theorem mfe {e:E} (hc:Cor e) (hr:Rg e) {nl:Bool} {t:List Nat} (ht:∀ b∈t,b<256) (htl:t.length<=65536) {n:Nat} (hn:2 * YtlnijcffanjieaaGreatDoor.hg e+t.length+2<=n) (bs:List Blk) (es:List (Nat×Nat)) :
  ∃ v H1 bs2 es2,Cx.callF ⟨Tryz.prog,glM.g,callA Tryz.prog glM n,glM.uq⟩ 45 [enc e] ⟨bs,es⟩=some (.val v,H1)/\clr v=v/\Cx.callF ⟨Tryz.prog,glM.g,callA Tryz.prog glM n,glM.uq⟩ 44 [v,qD nl t] H1=some (.val (qx true (zL (wQ e t))),⟨bs2,es2⟩):=by
 obtain ⟨v,H1,bs2,es2,h1,h2,h3⟩:=zqV hc hr (nl:=nl) ht htl hn bs es;exact ⟨v,H1,bs2,es2,zV Tryz.func45 rfl h1,h2,zV Tryz.func44 rfl h3⟩
theorem znq {l:List Co} {t:List Nat} {rs:List Int} {k:Nat} {r:Int} (h:rs[k]?=some r):zie l t (rs.drop k)=if zba l t r=some t.length then r else zie l t (rs.drop (k+1)):=by
 have hk:k<rs.length:=(zAI.1 h).1;rw [zBF hk];rw [zAS hk] at h;cases h;rfl
theorem zif {l:List Co} {a:List Int} {t:Nat} (hm:ya l a t=true) {k:Nat} {r:Int} (h:(jG a)[k]?=some r):∃ (j:Nat) (c:Co),r=(j:Int)/\l[j]?=some c/\zad c=true:=by
 simp only [ya,zAF,zAp,decide_eq_true_eq] at hm;obtain ⟨⟨⟨h1,h2⟩,h3⟩,h4⟩:=hm;have hmem:r∈a:=(zey a).mem_iff.1 (zAe h);have hoff:xB l r=false:=by
  cases ho:xB l r with
  | false=>rfl
  | true=>rw [List.any_eq_true.2 ⟨r,hmem,ho⟩] at h3;cases h3
 simp only [xB,zBW,decide_eq_false_iff_not] at hoff;have hj:r.toNat<l.length:=by omega
 exact ⟨r.toNat,l[r.toNat],by omega,zAS hj,zA4.1 h4 _ (List.getElem_mem hj)⟩
theorem zkq {l:List Co} {a:List Int} {t:Nat} (hm:ya l a t=true):t<=65536:=by
 simp only [ya,zAF,decide_eq_true_eq] at hm;exact hm.1.1.1
end Go.Proofs.YtlnijcffanjieaaGreatDoor
namespace Go.Proofs.YtlnijcffanjieaaGreatDoor
set_option maxRecDepth 100000
open Go Go.Vm
theorem g38 (H:Hp):zF Tryz.prog H glM.g 38 (.gptr 0 0)=some erA:=by
 have:glM.g 0 0=some erA:=GWb.g0;simp [zF,ag38,this]
theorem zeA (L:List Nat):(zL L).length=L.length:=by simp [zL]
theorem zja {L:List Nat} {k m:Nat} (h:L[k]?=some m):(zL L)[k]?=some (m:Int):=by simp [zL,h]
theorem zcG {n:Nat} (h:0<n) (h2:n<2 ^ 60):IntKind.i64.wrap ((n:Int) - 1)=((n - 1:Nat):Int):=by
 rw [w64 (by omega) (by omega)];omega
theorem zeB {L:List Nat} (h:0<L.length):∃ m,L[L.length - 1]?=some m/\L.getLast?=some m:=by
 refine ⟨L[L.length - 1],zAS _,?_⟩;rw [List.getLast?_eq_getElem?,zAS]
theorem e24 {n:Nat} {nl al tl:Bool} {l:List Co} {a:List Int} {t:List Nat} (hn:Fuel l a t n) (ha:a.length * 8<=140737488355328) (hl:l.length<2 ^ 60) (hc:∀ c∈l,GdC c) (ht:∀ b∈t,b<256) :
  ∃ H',callA Tryz.prog glM (n+1) 24 [qS nl l,qx al a,qD tl t] ⟨[],[]⟩=some (.ret (zez l a t),H'):=by
 suffices hmain:go ⟨Tryz.prog,glM.g,callA Tryz.prog glM n,glM.uq⟩ n (Fx Tryz.prog Tryz.f24.results.toList fun u H1=>u=zez l a t) [.c (Tryz.f24.body.getD .skip)] .normal ⟨[qS nl l,qx al a,qD tl t]++List.replicate 46 (.tup []),⟨[],[]⟩,[],[]⟩ by
  obtain ⟨u,H1,h1,rfl⟩:=j6 (gl:=glM) (f:=24) (bs:=[]) (es:=[]) (args:=[qS nl l,qx al a,qD tl t]) (n:=n) (zcc rfl _) (fun H=>zbv rfl _ _ _) Tryz.func24 rfl hmain;exact ⟨_,h1⟩
 have hal:=hn.al;have c46:=m46 (nl:=nl) (al:=al) (tl:=tl) hn (by omega) hl hc
 have c48:=m48 (n:=n) (by omega) (al:=al) (a:=a)
 have c47:=m47 (n:=n) (by omega) (al:=al) (a:=a) ha
 have hcv:clr (zcE 0)=zcE 0:=rfl;simp only [Tryz.f24,zAy,ze];refine zc (tk:=[]) (by kernel_rfl) ?_
 simp only [zj,go_os_nil,ze,zd,zt,ofVal,zg,opQ_val,zm,zAB,zAY,zAV,zAG,zAH,List.replicate]
 refine zc (tk:=[]) (by kernel_rfl) ?_
 simp only [zj,go_os_nil,ze,go_skip,zi,kO,z7,peeks,zP,peek,zb,opQ_val,zm,zk,zAC,zI,qE,zAX,zAm,zE,zM,zf,zn,zAG,zAH,ki,jB,q6,c46,unA]
 cases hmay:ya l a t.length with
 | false =>
  refine .inl ⟨rfl,?_⟩;refine vE [] [(false,false),(false,false),(false,false)] (tk:=[]) (by kernel_rfl) (by kernel_rfl) ?_
  simp only [zo,zd,peek,zh,zt,ofVal,zb,zg,zm,zAC,zAB,zAc,kV,zf,zn,zAG,zAH,oj_cons,oj_nil,yU,kx,ag38,g38,erA,qj,qi];simp only [go_ret,zx,qw,Fx]
  refine ⟨trivial,[.int .i64 0,erA],rfl,?_⟩;simp only [zez,hmay,tupOf,zAD,if_false];rfl
 | true =>
 refine .inr ⟨rfl,?_⟩
 try simp only [go_skip]
 have htl:=zkq hmay;refine zc (tk:=[]) (by kernel_rfl) ?_
 simp only [zj,go_os_nil,zY,zi,qY,z7,peeks,zP,peek,ofVal,zb,opQ_val,zm,zAC,zAB,zI,qE,zAX,zAm,zf,zn,zAG,zAH,jB,c48,hcv,c47,zc1,xU]
 refine v6 (fun m s=>∃ k env B E,m+k=a.length/\s=⟨env,⟨B,E⟩,[],[]⟩/\env.length=49/\nth env 0=some (qS nl l)/\nth env 2=some (qD tl t)/\nth env 19=some (qx true (jG a))/\nth env 20=some (.int .i64 a.length)/\nth env 21=some (.int .i64 (k:Nat))/\zc9 l a t=zie l t ((jG a).drop k)) a.length (by omega) ⟨0,_,_,_,rfl,rfl,rfl,rfl,rfl,rfl,rfl,rfl,rfl⟩ ?_
 rintro m s ⟨k,env,B,E,hmk,rfl,hel,e0,e2,e19,e20,e21,hL⟩;simp only [ze];refine zc (tk:=[]) (by kernel_rfl) ?_
 simp only [zj,go_os_nil,ze,go_skip,zY,zw,peek,zb,opQ_val,zm,zp,zk,zE,zM,if_true,za,Nat.reduceLT,if_true,e20,e21,hel,kQ]
 by_cases hk:k<a.length
 ·refine .inl ⟨by simp;omega,?_⟩
  obtain ⟨r,hr⟩:∃ r,(jG a)[k]?=some r:=⟨(jG a)[k]'(by rw [xU];exact hk),zAS _⟩
  obtain ⟨j,c,rfl,hj,hok⟩:=zif hmay hr;have hcm:=zAe hj;have hgc:=hc c hcm;obtain ⟨w1,w2⟩:=zid hgc hok;obtain ⟨v,H1,bs2,es2,x45,xv,x44⟩:=mfe w1 w2 (nl:=tl) ht htl (hn.e c hcm) B E;have x49:=m49 (n:=n) (by omega) (c:=c) ⟨hgc.1.1.2,hgc.2.1.2⟩ ⟨B,E⟩
  have hlw:zba l t (j:Int)=(wQ (kj c) t).getLast?:=by simp only [zba,zBZ,hj]
  rw [znq hr,hlw] at hL;obtain ⟨L,hLd⟩:∃ L,L=wQ (kj c) t:=⟨_,rfl⟩;have hll:L.length<=t.length+1:=by rw [hLd];exact zic _ _
  rw [<- hLd] at hL x44
  try simp only [go_skip,ze,zY]
  refine zc (tk:=[]) (by kernel_rfl) ?_
  simp only [zj,go_os_nil,ze,zo,zd,zT,Nat.reduceEqDiff,peek,zh,kN,zb,zg,opQ_val,zm,zp,wn,zAC,zAB,jW,if_true,za,zAQ,Nat.reduceLT,if_true,if_false,e19,e21,hel,jB,jW,zfy hr,zfz]
  refine zc (tk:=[]) (by kernel_rfl) ?_
  simp only [zj,go_os_nil,ze,zi,zo,zd,zT,z7,Nat.reduceEqDiff,peeks,zP,peek,zh,zb,zg,opQ_val,zm,zp,wn,zAC,zAB,jW,zI,qE,zAX,zAm,if_true,za,zAQ,Nat.reduceLT,if_true,if_false,e0,e2,hel,ki,jW,znm hj,zi8,zex,x49,wO,x45,xv,q6,x44,zcF]
  refine go_env (fun env=>env.length=49/\nth env 0=some (qS nl l)/\nth env 2=some (qD tl t)/\nth env 9=some (.int .i64 j)/\nth env 10=some (qx true (zL L))/\nth env 19=some (qx true (jG a))/\nth env 20=some (.int .i64 a.length)/\nth env 21=some (.int .i64 (k:Nat))) ⟨by simp [hel],by simp [za,e0],by simp [za,e2],by simp [za,hel],by simp [za,hel],by simp [za,e19],by simp [za,e20],by simp [za,e21]⟩ ?_
  clear hel e0 e2 e19 e20 e21 env;rintro env ⟨hel,e0,e2,e9,e10,e19,e20,e21⟩;refine zgw (fun s=>∃ env,s=⟨env,⟨bs2,es2⟩,[],[]⟩/\env.length=49/\nth env 0=some (qS nl l)/\nth env 2=some (qD tl t)/\nth env 9=some (.int .i64 j)/\nth env 19=some (qx true (jG a))/\nth env 20=some (.int .i64 a.length)/\nth env 21=some (.int .i64 (k:Nat))/\nth env 46=some (.bool (decide (L.getLast?=some t.length)))) ?_ ?_
  ·refine zc (tk:=[]) (by kernel_rfl) ?_
   by_cases h0:0<L.length
   ·obtain ⟨m',hm1,hm2⟩:=zeB h0;have d1:decide ((L.length:Int) > 0)=true:=decide_eq_true (by omega)
    have hix:zZ Tryz.prog 36 (qx true (zL L)) ((L.length - 1:Nat):Int)=some (.vp [.int .i64 (m':Nat)]):=zfy (zja hm1);have hdec:((m':Int) == (t.length:Int))=decide (L.getLast?=some t.length):=by
     rw [hm2]
     by_cases h:m'=t.length
     ·subst h;simp
     ·have:¬ (m':Int)=t.length:=by omega
      simp [h,this]
    simp only [zj,go_os_nil,zi,zo,zw,zX,zT,qY,Nat.reduceEqDiff,peek,ofVal,zb,opQ_val,zm,zp,zk,wn,zAC,zAB,jW,if_true,qk,za,zAQ,Nat.reduceLT,if_true,if_false,zf,zn,qI,zJ,z8,wantB_tt,kW,e2,e10,hel,jB,zc1,zeA,wj,d1,zf9,zcG h0 (show L.length<2 ^ 60 by omega),jW,hix,zfz,q6,zaC,je,hdec,zx,xQ]
    exact ⟨_,rfl,by simp [hel],by simp [za,e0],by simp [za,e2],by simp [za,e9],by simp [za,e19],by simp [za,e20],by simp [za,e21],by simp [za,hel]⟩
   ·have d1:decide ((L.length:Int) > 0)=false:=decide_eq_false (by omega)
    have hL0:L=[]:=zBh (by omega)
    simp only [zj,go_os_nil,zi,zo,zw,zX,zT,qY,Nat.reduceEqDiff,peek,ofVal,zb,opQ_val,zm,zp,zk,zAC,zAB,jW,if_true,ql,za,zAQ,Nat.reduceLT,if_true,if_false,zf,zn,qI,zJ,z8,wantB_tf,wd,e2,e10,hel,jB,zc1,zeA,wj,d1,zx,xQ]
    exact ⟨_,rfl,by simp [hel],by simp [za,e0],by simp [za,e2],by simp [za,e9],by simp [za,e19],by simp [za,e20],by simp [za,e21],by simp [za,hel,hL0]⟩
  clear hel e0 e2 e9 e10 e19 e20 e21 env;rintro s ⟨env,rfl,hel,e0,e2,e9,e19,e20,e21,e46⟩
  by_cases hlast:L.getLast?=some t.length
  ·rw [if_pos hlast] at hL;rw [decide_eq_true hlast] at e46;simp only [ze,go_skip,jO,peek,zk,zAc,zE,zM,e46]
   refine .inl ?_
   try simp only [ze]
   refine zc (tk:=[]) (by kernel_rfl) ?_
   simp only [zj,go_os_nil,zi,zd,peek,zh,zt,ofVal,kN,zb,zg,opQ_val,zm,zp,zAB,if_true,za,Nat.reduceLT,if_true,e9,hel]
   simp only [go_ret,zx,qw,jH,thn,Fx]
   refine ⟨trivial,[.int .i64 j,.nili],?_,?_⟩
   ·simp [zO,za,hel]
   ·simp [zez,hmay,hL,tupOf,clr]
  ·rw [if_neg hlast] at hL;rw [decide_eq_false hlast] at e46;simp only [ze,go_skip,jO,peek,zk,zAc,zE,zM,e46]
   refine .inr ?_
   try simp only [go_skip,jO]
   refine zc (tk:=[]) (by kernel_rfl) ?_
   simp only [zj,go_os_nil,zi,zw,peek,ofVal,zb,opQ_val,zm,zp,if_true,za,Nat.reduceLT,if_true,e21,hel,jh (show k<2 ^ 60 by omega),zx,thn_normal]
   refine ⟨m - 1,by omega,k+1,_,_,_,by omega,rfl,?_,?_,?_,?_,?_,?_,hL⟩
   ·simp [hel]
   ·simp [za,e0]
   ·simp [za,e2]
   ·simp [za,e19]
   ·simp [za,e20]
   ·simp [za,hel]
 ·refine .inr ⟨by simp;omega,?_⟩
  obtain rfl:k=a.length:=by omega
  rw [zBe (by rw [xU];exact zAR _)] at hL
  simp only [vZ,kS,kg,zx,thn_exit,ze,zBJ,if_true,zx];refine zc (tk:=[]) (by kernel_rfl) ?_
  simp only [zj,go_os_nil,zd,zt,ofVal,zg,opQ_val,zm,zAB]
  simp only [go_ret,zx,Fx]
  refine ⟨trivial,[.int .i64 (-1),.nili],?_,?_⟩
  ·simp [zO,za,hel]
  ·simp [zez,hmay,hL,zie,tupOf,clr]
end Go.Proofs.YtlnijcffanjieaaGreatDoor
namespace Go.Proofs.YtlnijcffanjieaaGreatDoor
set_option maxRecDepth 100000
open Go Go.Vm
def zjb (l:List Co) (t:List Nat) (s:Nat×Int) (r:Int):Nat×Int:=match zba l t r with
 | some m=>if s.1<m then (m,r) else s
 | none=>s
def zaG (l:List Co) (a:List Int) (t:List Nat):Nat×Int:=(jG a).foldl (zjb l t) (0,-1)
def zeR (l:List Co) (a:List Int) (t:List Nat):V:=if ya l a t.length then .tup [.int .i64 (zaG l a t).1,.int .i64 (zaG l a t).2,.nili] else .tup [.int .i64 0,.int .i64 0,erA]
theorem zly {α β:Type} {f:β->α->β} {rs:List α} {k:Nat} {r:α} {s:β} (h:rs[k]?=some r):(rs.drop k).foldl f s=(rs.drop (k+1)).foldl f (f s r):=by
 have hk:k<rs.length:=(zAI.1 h).1;rw [zBF hk];rw [zAS hk] at h;cases h;rfl
def gtO (n:Nat):Option Nat->Bool
 | some m=>decide (n<m)
 | none=>false
theorem e23 {n:Nat} {nl al tl:Bool} {l:List Co} {a:List Int} {t:List Nat} (hn:Fuel l a t n) (ha:a.length * 8<=140737488355328) (hl:l.length<2 ^ 60) (hc:∀ c∈l,GdC c) (ht:∀ b∈t,b<256) :
  ∃ H',callA Tryz.prog glM (n+1) 23 [qS nl l,qx al a,qD tl t] ⟨[],[]⟩=some (.ret (zeR l a t),H'):=by
 suffices hmain:go ⟨Tryz.prog,glM.g,callA Tryz.prog glM n,glM.uq⟩ n (Fx Tryz.prog Tryz.f23.results.toList fun u H1=>u=zeR l a t) [.c (Tryz.f23.body.getD .skip)] .normal ⟨[qS nl l,qx al a,qD tl t]++List.replicate 54 (.tup []),⟨[],[]⟩,[],[]⟩ by
  obtain ⟨u,H1,h1,rfl⟩:=j6 (gl:=glM) (f:=23) (bs:=[]) (es:=[]) (args:=[qS nl l,qx al a,qD tl t]) (n:=n) (zcc rfl _) (fun H=>zbv rfl _ _ _) Tryz.func23 rfl hmain;exact ⟨_,h1⟩
 have hal:=hn.al;have c46:=m46 (nl:=nl) (al:=al) (tl:=tl) hn (by omega) hl hc
 have c48:=m48 (n:=n) (by omega) (al:=al) (a:=a)
 have c47:=m47 (n:=n) (by omega) (al:=al) (a:=a) ha
 have hcv:clr (zcE 0)=zcE 0:=rfl;simp only [Tryz.f23,zAy,ze];refine zc (tk:=[]) (by kernel_rfl) ?_
 simp only [zj,go_os_nil,ze,zd,zt,ofVal,zg,opQ_val,zm,zAB,zAY,zAV,zAG,zAH,List.replicate]
 refine zc (tk:=[]) (by kernel_rfl) ?_
 simp only [zj,go_os_nil,ze,go_skip,zi,kO,z7,peeks,zP,peek,zb,opQ_val,zm,zk,zAC,zI,qE,zAX,zAm,zE,zM,zf,zn,zAG,zAH,ki,jB,q6,c46,unA]
 cases hmay:ya l a t.length with
 | false =>
  refine .inl ⟨rfl,?_⟩;refine vE [] [(false,false),(false,false),(false,false),(false,false)] (tk:=[]) (by kernel_rfl) (by kernel_rfl) ?_
  simp only [zo,zd,peek,zh,zt,ofVal,zb,zg,zm,zAC,zAB,zAc,kV,zf,zn,zAG,zAH,oj_cons,oj_nil,yU,kx,ag38,g38,erA,qj,qi];simp only [go_ret,zx,qw,Fx]
  refine ⟨trivial,[.int .i64 0,.int .i64 0,erA],rfl,?_⟩;simp only [zeR,hmay,tupOf,zAD,if_false];rfl
 | true =>
 refine .inr ⟨rfl,?_⟩
 try simp only [go_skip]
 have htl:=zkq hmay;refine zc (tk:=[]) (by kernel_rfl) ?_
 simp only [zj,go_os_nil,ze,zd,zt,ofVal,zg,opQ_val,zm,zAB,zAG,zAH]
 refine zc (tk:=[]) (by kernel_rfl) ?_
 simp only [zj,go_os_nil,zY,zi,qY,z7,peeks,zP,peek,ofVal,zb,opQ_val,zm,zAC,zAB,zI,qE,zAX,zAm,zf,zn,zAG,zAH,jB,c48,hcv,c47,zc1,xU]
 refine v6 (fun m s=>∃ k env B E st,m+k=a.length/\s=⟨env,⟨B,E⟩,[],[]⟩/\env.length=57/\nth env 0=some (qS nl l)/\nth env 2=some (qD tl t)/\nth env 6=some (.int .i64 (st.1:Nat))/\nth env 7=some (.int .i64 st.2)/\nth env 20=some (qx true (jG a))/\nth env 21=some (.int .i64 a.length)/\nth env 22=some (.int .i64 (k:Nat))/\zaG l a t=((jG a).drop k).foldl (zjb l t) st) a.length (by omega) ⟨0,_,_,_,(0,-1),rfl,rfl,rfl,rfl,rfl,rfl,rfl,rfl,rfl,rfl,rfl⟩ ?_
 rintro m s ⟨k,env,B,E,st,hmk,rfl,hel,e0,e2,e6,e7,e20,e21,e22,hL⟩;simp only [ze];refine zc (tk:=[]) (by kernel_rfl) ?_
 simp only [zj,go_os_nil,ze,go_skip,zY,zw,peek,zb,opQ_val,zm,zp,zk,zE,zM,if_true,za,Nat.reduceLT,if_true,e21,e22,hel,kQ]
 by_cases hk:k<a.length
 ·refine .inl ⟨by simp;omega,?_⟩
  obtain ⟨r,hr⟩:∃ r,(jG a)[k]?=some r:=⟨(jG a)[k]'(by rw [xU];exact hk),zAS _⟩
  obtain ⟨j,c,rfl,hj,hok⟩:=zif hmay hr;have hcm:=zAe hj;have hgc:=hc c hcm;obtain ⟨w1,w2⟩:=zid hgc hok;obtain ⟨v,H1,bs2,es2,x45,xv,x44⟩:=mfe w1 w2 (nl:=tl) ht htl (hn.e c hcm) B E;have x49:=m49 (n:=n) (by omega) (c:=c) ⟨hgc.1.1.2,hgc.2.1.2⟩ ⟨B,E⟩
  have hlw:zba l t (j:Int)=(wQ (kj c) t).getLast?:=by simp only [zba,zBZ,hj]
  rw [zly hr] at hL;simp only [zjb,hlw] at hL;obtain ⟨L,hLd⟩:∃ L,L=wQ (kj c) t:=⟨_,rfl⟩;have hll:L.length<=t.length+1:=by rw [hLd];exact zic _ _
  rw [<- hLd] at hL x44
  try simp only [go_skip,ze,zY]
  refine zc (tk:=[]) (by kernel_rfl) ?_
  simp only [zj,go_os_nil,ze,zo,zd,zT,Nat.reduceEqDiff,peek,zh,kN,zb,zg,opQ_val,zm,zp,wn,zAC,zAB,jW,if_true,za,zAQ,Nat.reduceLT,if_true,if_false,e20,e22,hel,jB,jW,zfy hr,zfz]
  refine zc (tk:=[]) (by kernel_rfl) ?_
  simp only [zj,go_os_nil,ze,zi,zo,zd,zT,z7,Nat.reduceEqDiff,peeks,zP,peek,zh,zb,zg,opQ_val,zm,zp,wn,zAC,zAB,jW,zI,qE,zAX,zAm,if_true,za,zAQ,Nat.reduceLT,if_true,if_false,e0,e2,hel,ki,jW,znm hj,zi8,zex,x49,wO,x45,xv,q6,x44,zcF]
  refine go_env (fun env=>env.length=57/\nth env 0=some (qS nl l)/\nth env 2=some (qD tl t)/\nth env 6=some (.int .i64 (st.1:Nat))/\nth env 7=some (.int .i64 st.2)/\nth env 10=some (.int .i64 j)/\nth env 11=some (qx true (zL L))/\nth env 20=some (qx true (jG a))/\nth env 21=some (.int .i64 a.length)/\nth env 22=some (.int .i64 (k:Nat))) ⟨by simp [hel],by simp [za,e0],by simp [za,e2],by simp [za,e6],by simp [za,e7],by simp [za,hel],by simp [za,hel],by simp [za,e20],by simp [za,e21],by simp [za,e22]⟩ ?_
  clear hel e0 e2 e6 e7 e20 e21 e22 env;rintro env ⟨hel,e0,e2,e6,e7,e10,e11,e20,e21,e22⟩
  refine zgw (fun s=>∃ env,s=⟨env,⟨bs2,es2⟩,[],[]⟩/\env.length=57/\nth env 0=some (qS nl l)/\nth env 2=some (qD tl t)/\nth env 6=some (.int .i64 (st.1:Nat))/\nth env 7=some (.int .i64 st.2)/\nth env 10=some (.int .i64 j)/\nth env 11=some (qx true (zL L))/\nth env 20=some (qx true (jG a))/\nth env 21=some (.int .i64 a.length)/\nth env 22=some (.int .i64 (k:Nat))/\nth env 46=some (.bool (gtO st.1 L.getLast?))) ?_ ?_
  ·refine zc (tk:=[]) (by kernel_rfl) ?_
   by_cases h0:0<L.length
   ·obtain ⟨m',hm1,hm2⟩:=zeB h0;have d1:decide ((L.length:Int) > 0)=true:=decide_eq_true (by omega)
    have hix:zZ Tryz.prog 36 (qx true (zL L)) ((L.length - 1:Nat):Int)=some (.vp [.int .i64 (m':Nat)]):=zfy (zja hm1);have hdec:decide ((m':Int) > (st.1:Int))=gtO st.1 L.getLast?:=by
     rw [hm2];exact decide_eq_decide.2 ⟨fun h=>by omega,fun h=>by omega⟩
    simp only [zj,go_os_nil,zi,zo,zw,zX,zT,qY,Nat.reduceEqDiff,peek,ofVal,zb,opQ_val,zm,zp,zk,wn,zAC,zAB,jW,if_true,qk,za,zAQ,Nat.reduceLT,if_true,if_false,zf,zn,qI,zJ,z8,wantB_tt,kW,e6,e11,hel,jB,zc1,zeA,wj,d1,zf9,zcG h0 (show L.length<2 ^ 60 by omega),jW,hix,zfz,hdec,zx,xQ]
    exact ⟨_,rfl,by simp [hel],by simp [za,e0],by simp [za,e2],by simp [za,e6],by simp [za,e7],by simp [za,e10],by simp [za,e11],by simp [za,e20],by simp [za,e21],by simp [za,e22],by simp [za,hel]⟩
   ·have d1:decide ((L.length:Int) > 0)=false:=decide_eq_false (by omega)
    have hL0:L=[]:=zBh (by omega)
    simp only [zj,go_os_nil,zi,zo,zw,zX,zT,qY,Nat.reduceEqDiff,peek,ofVal,zb,opQ_val,zm,zp,zk,zAC,zAB,jW,if_true,ql,za,zAQ,Nat.reduceLT,if_true,if_false,zf,zn,qI,zJ,z8,wantB_tf,wd,e6,e11,hel,jB,zc1,zeA,wj,d1,zx,xQ]
    exact ⟨_,rfl,by simp [hel],by simp [za,e0],by simp [za,e2],by simp [za,e6],by simp [za,e7],by simp [za,e10],by simp [za,e11],by simp [za,e20],by simp [za,e21],by simp [za,e22],by simp [za,hel,hL0,gtO]⟩
  clear hel e0 e2 e6 e7 e10 e11 e20 e21 e22 env;rintro s ⟨env,rfl,hel,e0,e2,e6,e7,e10,e11,e20,e21,e22,eB⟩;cases hg:gtO st.1 L.getLast? with
  | true =>
   have h0:0<L.length:=by
    cases L with
    | nil=>simp [gtO] at hg
    | cons x L=>simp
   obtain ⟨m',hm1,hm2⟩:=zeB h0;have hix:zZ Tryz.prog 36 (qx true (zL L)) ((L.length - 1:Nat):Int)=some (.vp [.int .i64 (m':Nat)]):=zfy (zja hm1);rw [hm2] at hL hg;simp only [gtO,decide_eq_true_eq] at hg;simp only [if_pos hg] at hL;rw [hm2] at eB;simp only [gtO,decide_eq_true hg] at eB;simp only [go_skip,jO,peek,zk,zAc,zE,zM,eB]
   refine .inl ?_;refine zc (tk:=[]) (by kernel_rfl) ?_
   simp only [zj,go_os_nil,jO,zi,zo,zw,zd,zT,qY,Nat.reduceEqDiff,peek,zh,ofVal,kN,zb,zg,opQ_val,zm,zp,wn,zAC,zAB,jW,if_true,za,zAQ,Nat.reduceLT,if_true,if_false,e10,e11,hel,jB,zc1,zeA,zf9,zcG h0 (show L.length<2 ^ 60 by omega),jW,hix,zfz]
   refine zc (tk:=[]) (by kernel_rfl) ?_
   simp only [zj,go_os_nil,zi,zw,Nat.reduceEqDiff,peek,ofVal,zb,opQ_val,zm,zp,if_true,za,zAQ,Nat.reduceLT,if_true,if_false,e22,hel,jh (show k<2 ^ 60 by omega),zx,thn_normal]
   refine ⟨m - 1,by omega,k+1,_,_,_,(m',(j:Int)),by omega,rfl,?_,?_,?_,?_,?_,?_,?_,?_,hL⟩
   ·simp [hel]
   ·simp [za,e0]
   ·simp [za,e2]
   ·simp [za,hel]
   ·simp [za,hel]
   ·simp [za,e20]
   ·simp [za,e21]
   ·simp [za,hel]
  | false =>
   have hL':zaG l a t=((jG a).drop (k+1)).foldl (zjb l t) st:=by
    rw [hL];cases hx:L.getLast? with
    | none=>rfl
    | some m'=>rw [hx] at hg;simp only [gtO,decide_eq_false_iff_not] at hg;simp only [if_neg hg]
   rw [hg] at eB;simp only [go_skip,jO,peek,zk,zAc,zE,zM,eB]
   refine .inr ?_
   try simp only [go_skip,jO]
   refine zc (tk:=[]) (by kernel_rfl) ?_
   simp only [zj,go_os_nil,zi,zw,peek,ofVal,zb,opQ_val,zm,zp,if_true,za,Nat.reduceLT,if_true,e22,hel,jh (show k<2 ^ 60 by omega),zx,thn_normal]
   refine ⟨m - 1,by omega,k+1,_,_,_,st,by omega,rfl,?_,?_,?_,?_,?_,?_,?_,?_,hL'⟩
   ·simp [hel]
   ·simp [za,e0]
   ·simp [za,e2]
   ·simp [za,e6]
   ·simp [za,e7]
   ·simp [za,e20]
   ·simp [za,e21]
   ·simp [za,hel]
 ·refine .inr ⟨by simp;omega,?_⟩
  obtain rfl:k=a.length:=by omega
  rw [zBe (by rw [xU];exact zAR _)] at hL
  simp only [List.foldl_nil] at hL;simp only [vZ,kS,kg,zx,thn_exit,ze,zBJ,if_true,zx];refine zc (tk:=[]) (by kernel_rfl) ?_
  simp only [zj,go_os_nil,zi,zd,Nat.reduceEqDiff,peek,zh,zt,ofVal,kN,zb,zg,opQ_val,zm,zp,zAB,if_true,za,zAQ,Nat.reduceLT,if_true,if_false,e6,e7,hel]
  simp only [go_ret,zx,Fx]
  refine ⟨trivial,[.int .i64 (st.1:Nat),.int .i64 st.2,.nili],?_,?_⟩
  ·simp [zO,za,hel]
  ·simp [zeR,hmay,hL,tupOf,clr]
end Go.Proofs.YtlnijcffanjieaaGreatDoor
namespace Go.Proofs.YtlnijcffanjieaaGreatDoor
open Go Go.Vm
theorem goEnds_le:∀ (t:List Nat) (w:Wd) (i x:Nat),x∈goEnds w i t->x<=i+t.length
 | [],_,_,_,h=>by simp [goEnds] at h
 | b::t,w,i,x,h=>by
  simp only [goEnds,zAt] at h;simp only [zAT];rcases h with h|h
  ·split at h
   ·simp at h;omega
   ·simp at h
  ·have:=goEnds_le t _ _ _ h;omega
theorem goEnds_pw:∀ (t:List Nat) (w:Wd) (i:Nat),(goEnds w i t).Pairwise (· < ·)
 | [],_,_=>by simp [goEnds]
 | b::t,w,i=>by
  simp only [goEnds];refine List.pairwise_append.2 ⟨?_,goEnds_pw t _ _,fun x hx y hy=>?_⟩
  ·split<;>simp
  ·have:=goEnds_gt t _ _ _ hy;split at hx
   ·simp at hx;omega
   ·simp at hx
theorem zoF {e:E} {t:List Nat} {x:Nat} (h:x∈wQ e t):x<=t.length:=by
 unfold wQ at h;split at h
 ·simp only [zaa,zAt] at h;rcases h with h|h
  ·split at h
   ·simp at h;omega
   ·simp at h
  ·have:=goEnds_le _ _ _ _ h;omega
 ·simp at h
theorem zoG (e:E) (t:List Nat):(wQ e t).Pairwise (· < ·):=by
 unfold wQ;split
 ·simp only [zaa];refine List.pairwise_append.2 ⟨?_,goEnds_pw _ _ _,fun x hx y hy=>?_⟩
  ·split<;>simp
  ·have:=goEnds_gt _ _ _ _ hy;split at hx
   ·simp at hx;omega
   ·simp at hx
 ·simp
theorem zig {L:List Nat} (h:L.Pairwise (· < ·)) {m:Nat}:L.getLast?=some m ↔ m∈L/\∀ x∈L,x<=m:=by
 constructor
 ·intro hl;have hm:=List.mem_of_getLast? hl;refine ⟨hm,fun x hx=>?_⟩;obtain ⟨A,rfl⟩:∃ A,L=A++[m]:=List.getLast?_eq_some_iff.1 hl;rcases zAt.1 hx with hx|hx
  ·exact Nat.le_of_lt ((List.pairwise_append.1 h).2.2 x hx m (by simp))
  ·simp at hx;omega
 ·rintro ⟨hm,hx⟩;cases hl:L.getLast? with
  | none=>rw [List.getLast?_eq_none_iff] at hl;rw [hl] at hm;simp at hm
  | some m' =>
   have hm':=List.mem_of_getLast? hl;have h1:=hx m' hm';obtain ⟨A,rfl⟩:∃ A,L=A++[m']:=List.getLast?_eq_some_iff.1 hl;rcases zAt.1 hm with hm|hm
   ·have:=(List.pairwise_append.1 h).2.2 m hm m' (by simp);omega
   ·simp at hm;rw [hm]
def gw (l:List Co) (t:List Nat) (r:Int):List Nat:=match l[r.toNat]? with|some c=>wQ (kj c) t|none=>[]
theorem zih (l:List Co) (t:List Nat) (r:Int):zba l t r=(gw l t r).getLast?:=by unfold zba gw;cases l[r.toNat]?<;>rfl
theorem zpb (l:List Co) (t:List Nat) (r:Int):(gw l t r).Pairwise (· < ·):=by unfold gw;split;exact zoG _ _;simp
theorem zqW {l:List Co} {t:List Nat} {r:Int} {x:Nat} (h:x∈gw l t r):x<=t.length:=by
 unfold gw at h;split at h;exact zoF h;simp at h
theorem last_len {l:List Co} {t:List Nat} {r:Int}:zba l t r=some t.length ↔ t.length∈gw l t r:=by
 rw [zih,zig (zpb l t r)];exact ⟨fun h=>h.1,fun h=>⟨h,fun x hx=>zqW hx⟩⟩
def Lst (p:Int->Prop) (a:List Int) (x:Int):Prop:=(x = -1/\∀ r∈a,¬ p r)\/(x∈a/\p x/\∀ r∈a,p r->x<=r)
theorem zp0 {p:Int->Prop} {a:List Int} {x y:Int} (_ha:∀ r∈a,0<=r) (hx:Lst p a x) (hy:Lst p a y):x=y:=by
 rcases hx with ⟨h1,h2⟩|⟨h1,h2,h3⟩<;>rcases hy with ⟨k1,k2⟩|⟨k1,k2,k3⟩
 ·rw [h1,k1]
 ·exact absurd k2 (h2 y k1)
 ·exact absurd h2 (k2 x h1)
 ·have:=h3 y k1 k2;have:=k3 x h1 h2;omega
theorem znr {p:Int->Prop} {a b:List Int} {x:Int} (h:∀ r,r∈a ↔ r∈b) (hx:Lst p a x):Lst p b x:=by
 rcases hx with ⟨h1,h2⟩|⟨h1,h2,h3⟩
 ·exact .inl ⟨h1,fun r hr=>h2 r ((h r).2 hr)⟩
 ·exact .inr ⟨(h x).1 h1,h2,fun r hr=>h3 r ((h r).2 hr)⟩
theorem zns (a:List Int):(jG a).Pairwise (·<=·):=by
 have:=List.pairwise_mergeSort (le:=fun (x y:Int)=>decide (x<=y)) (fun a b c h1 h2=>by simp at *;omega) (fun a b=>by simp;omega) a
 exact this.imp fun h=>of_decide_eq_true h
theorem zii (l:List Co) (t:List Nat):∀ (rs:List Int),rs.Pairwise (·<=·)->Lst (fun r=>t.length∈gw l t r) rs (zie l t rs)
 | [],_=>.inl ⟨rfl,by simp⟩
 | r::rs,h=>by
  have h':=List.pairwise_cons.1 h;simp only [zie];split
  ·rename_i hl;refine .inr ⟨zAN ..,last_len.1 hl,fun x hx _=>?_⟩;rcases zAM.1 hx with rfl|hx
   ·exact Int.le_refl _
   ·exact h'.1 x hx
  ·rename_i hl;have hn:¬ t.length∈gw l t r:=fun h=>hl (last_len.2 h);rcases zii l t rs h'.2 with ⟨h1,h2⟩|⟨h1,h2,h3⟩
   ·refine .inl ⟨h1,fun x hx=>?_⟩;rcases zAM.1 hx with rfl|hx
    ·exact hn
    ·exact h2 x hx
   ·refine .inr ⟨zAE _ h1,h2,fun x hx hp=>?_⟩;rcases zAM.1 hx with rfl|hx
    ·exact absurd hp hn
    ·exact h3 x hx hp
theorem zij (l:List Co) (a:List Int) (t:List Nat):Lst (fun r=>t.length∈gw l t r) a (zc9 l a t) :=
 znr (fun _r=>(zey a).mem_iff) (zii l t _ (zns a))
def Lon (l:List Co) (t:List Nat) (a:List Int) (s:Nat×Int):Prop :=
 (s.1=0/\s.2 = -1/\∀ r∈a,∀ m∈gw l t r,m=0)\/(0<s.1/\s.2∈a/\s.1∈gw l t s.2/\∀ r∈a,∀ m∈gw l t r,m<=s.1/\(m=s.1->s.2<=r))
theorem zik (l:List Co) (a:List Int) (t:List Nat):Lon l t a (zaG l a t):=by
 have key:∀ (b pre:List Int) (s:Nat×Int),(pre++b).Pairwise (·<=·)->Lon l t pre s->Lon l t (pre++b) (b.foldl (zjb l t) s):=by
  intro b
  induction b with
  | nil=>intro pre s _ hs;simpa using hs
  | cons r b ih =>
   intro pre s hpw hs;have hstep:Lon l t (pre++[r]) (zjb l t s r):=by
    have hmem:∀ y,y∈pre++[r] ↔ y∈pre\/y=r:=fun y=>by simp
    have hle:∀ y∈pre,y<=r:=fun y hy=>(List.pairwise_append.1 hpw).2.2 y hy r (by simp)
    unfold zjb;rw [zih];cases hl:(gw l t r).getLast? with
    | none =>
     have hnil:gw l t r=[]:=List.getLast?_eq_none_iff.1 hl;simp only;rcases hs with ⟨h1,h2,h3⟩|⟨h1,h2,h3,h4⟩
     ·refine .inl ⟨h1,h2,fun y hy m hm=>?_⟩;rcases (hmem y).1 hy with hy|rfl
      ·exact h3 y hy m hm
      ·rw [hnil] at hm;simp at hm
     ·refine .inr ⟨h1,by simp [h2],h3,fun y hy m hm=>?_⟩
      rcases (hmem y).1 hy with hy|rfl
      ·exact h4 y hy m hm
      ·rw [hnil] at hm;simp at hm
    | some m0 =>
     obtain ⟨l1,l2⟩:=(zig (zpb l t r)).1 hl;simp only;split
     ·rename_i hlt;refine .inr ⟨by omega,by simp,l1,fun y hy m hm=>?_⟩
      rcases (hmem y).1 hy with hy|rfl
      ·have:m<=s.1:=by
        rcases hs with ⟨h1,h2,h3⟩|⟨h1,h2,h3,h4⟩
        ·have:=h3 y hy m hm;omega
        ·exact (h4 y hy m hm).1
       exact ⟨by simp only;omega,fun h=>by simp only at h;omega⟩
      ·exact ⟨l2 m hm,fun _=>Int.le_refl _⟩
     ·rename_i hlt;rcases hs with ⟨h1,h2,h3⟩|⟨h1,h2,h3,h4⟩
      ·refine .inl ⟨h1,h2,fun y hy m hm=>?_⟩;rcases (hmem y).1 hy with hy|rfl
       ·exact h3 y hy m hm
       ·have:=l2 m hm;omega
      ·refine .inr ⟨h1,by simp [h2],h3,fun y hy m hm=>?_⟩
       rcases (hmem y).1 hy with hy|rfl
       ·exact h4 y hy m hm
       ·have:=l2 m hm;exact ⟨by omega,fun _=>hle _ h2⟩
   have:=ih (pre++[r]) _ (by simpa using hpw) hstep
   simpa using this
 have h:=key (jG a) [] (0,-1) (by simpa using zns a) (.inl ⟨rfl,rfl,by simp⟩)
 simp only [zAV] at h;have hm:∀ r,r∈jG a ↔ r∈a:=fun r=>(zey a).mem_iff;rcases h with ⟨h1,h2,h3⟩|⟨h1,h2,h3,h4⟩
 ·exact .inl ⟨h1,h2,fun r hr=>h3 r ((hm r).2 hr)⟩
 ·exact .inr ⟨h1,(hm _).1 h2,h3,fun r hr=>h4 r ((hm r).2 hr)⟩
end Go.Proofs.YtlnijcffanjieaaGreatDoor
namespace Go.Proofs.YtlnijcffanjieaaGreatDoor
set_option maxRecDepth 10000
open Go Go.Vm
theorem c27:Tryz.prog.cellsOf 27=10:=by kernel_rfl
theorem c24:Tryz.prog.cellsOf 24=4:=by kernel_rfl
theorem c22:Tryz.prog.cellsOf 22=1:=by kernel_rfl
theorem c25:Tryz.prog.cellsOf 25=1:=by kernel_rfl
theorem c28:Tryz.prog.cellsOf 28=1:=by kernel_rfl
theorem c34:Tryz.prog.cellsOf 34=1:=by kernel_rfl
theorem c47:Tryz.prog.cellsOf 47=31:=by kernel_rfl
theorem c9:Tryz.prog.cellsOf 9=1:=by kernel_rfl
theorem c3':Tryz.prog.cellsOf 3=1:=by kernel_rfl
theorem c5':Tryz.prog.cellsOf 5=1:=by kernel_rfl
theorem zrB (cs:List V):yq Tryz.prog 27 cs=.agg cs:=by
 have:xE Tryz.prog 27=true:=by kernel_rfl
 simp only [yq,this,if_true]
theorem zrC (x:V):yq Tryz.prog 34 [x]=x:=by
 have:xE Tryz.prog 34=false:=by kernel_rfl
 simp only [yq,this,zAD,if_false];rfl
theorem mk5 (x:V):yq Tryz.prog 5 [x]=x:=by
 have:xE Tryz.prog 5=false:=by kernel_rfl
 simp only [yq,this,zAD,if_false];rfl
theorem zeC {n:Nat} {xs:List V} (h:qR Tryz.prog n 3 xs):∃ z,xs=[.int .i64 z]:=by
 cases n with
 | zero=>exact h.elim
 | succ n =>
  simp only [qR,Tryz.underlying3] at h;obtain ⟨z,h,_⟩:=h;exact ⟨z,h⟩
theorem zp1 {n:Nat} {xs:List V} (h:qR Tryz.prog n 5 xs):∃ z:Nat,xs=[.int .u8 z]/\z<256:=by
 cases n with
 | zero=>exact h.elim
 | succ n =>
  simp only [qR,Tryz.underlying5] at h;obtain ⟨z,h,hw⟩:=h;have h1:0<=z/\z<256:=by
   simp [Lit.wf,IntKind.min,IntKind.max,IntKind.signed,IntKind.bits] at hw;omega
  exact ⟨z.toNat,by rw [h,Int.toNat_of_nonneg h1.1],by omega⟩
theorem zdr {n:Nat} {xs:List V} (h:qR Tryz.prog n 22 xs):∃ z,xs=[.int .u64 z]/\r64 z:=by
 cases n with
 | zero=>exact h.elim
 | succ n =>
  simp only [qR,Tryz.underlying22] at h;obtain ⟨z,h,hw⟩:=h;refine ⟨z,h,?_⟩;simp [Lit.wf,IntKind.min,IntKind.max,IntKind.signed,IntKind.bits] at hw;unfold r64;omega
theorem zp2 {n:Nat} {xs:List V} (h:qR Tryz.prog n 9 xs):∃ s,xs=[.str s]/\(∀ b∈s,b<256)/\s.length<=maxLen:=by
 cases n with
 | zero=>exact h.elim
 | succ n =>
  simp only [qR,Tryz.underlying9] at h;exact h
theorem zoH {n:Nat} {xs:List V} (h:qR Tryz.prog n 24 xs):∃ a b c d,xs=[.int .u64 a,.int .u64 b,.int .u64 c,.int .u64 d]/\RgS (a,b,c,d):=by
 cases n with
 | zero=>exact h.elim
 | succ n =>
  simp only [qR,Tryz.underlying24,c24,c22] at h;obtain ⟨hl,h⟩:=h
  match xs,hl with
  | [x,y,z,w],_ =>
   obtain ⟨a,ha,ra⟩:=zdr (h 0 (by omega))
   obtain ⟨b,hb,rb⟩:=zdr (h 1 (by omega))
   obtain ⟨c,hc,rc⟩:=zdr (h 2 (by omega))
   obtain ⟨d,hd,rd⟩:=zdr (h 3 (by omega))
   simp at ha hb hc hd;exact ⟨a,b,c,d,by rw [ha,hb,hc,hd],ra,rb,rc,rd⟩
theorem encs_ex:∀ (ys:List V),(∀ y∈ys,∃ e,enc e=y/\GdE e/\Rg e)->∃ l,encs l=ys/\Wfs l/\Cans l/\Rgs l
 | [],_=>⟨[],rfl,trivial,trivial,trivial⟩
 | y::ys,h=>by
  obtain ⟨e,h1,h2,h5⟩:=h y zAN;obtain ⟨l,h3,h4,h6,h7⟩:=encs_ex ys fun z hz=>h z (zAE _ hz);exact ⟨e::l,by simp [encs,h1,h3],⟨h2.1,h4⟩,⟨h2.2,h6⟩,h5,h7⟩
theorem zcd {α:Type} {h:α->V} {Q:α->Prop}:∀ (ys:List V),(∀ y∈ys,∃ a,h a=y/\Q a)->∃ l:List α,l.map h=ys/\∀ a∈l,Q a
 | [],_=>⟨[],rfl,fun _ h=>by simp at h⟩
 | y::ys,hy=>by
  obtain ⟨a,h1,h2⟩:=hy y (zAN ..);obtain ⟨l,h3,h4⟩:=zcd ys fun z hz=>hy z (zAE _ hz);refine ⟨a::l,by simp [h1,h3],fun b hb=>?_⟩
  rcases zAM.1 hb with rfl|hb
  ·exact h2
  ·exact h4 b hb
mutual
theorem typedE:∀ (n:Nat) (xs:List V),qR Tryz.prog n 27 xs->∃ e,enc e=.agg xs/\GdE e/\Rg e
 | 0,_,h=>h.elim
 | n+1,xs,h=>by
  simp only [qR,Tryz.underlying27,c27] at h;obtain ⟨hl,h⟩:=h;have f0:=h ⟨ "Op",3,0,false,"","",0⟩ (by simp)
  have f1:=h ⟨ "At",3,1,false,"","",8⟩ (by simp)
  have f2:=h ⟨ "Set",24,2,false,"","",16⟩ (by simp)
  have f3:=h ⟨ "Text",9,6,false,"","",48⟩ (by simp)
  have f4:=h ⟨ "Min",3,7,false,"","",64⟩ (by simp)
  have f5:=h ⟨ "Max",3,8,false,"","",72⟩ (by simp)
  have f6:=h ⟨ "Args",25,9,false,"","",80⟩ (by simp)
  clear h;simp only [c3',c24,c9,c25] at f0 f1 f2 f3 f4 f5 f6
  match xs,hl with
  | [x0,x1,x2,x3,x4,x5,x6,x7,x8,x9],_ =>
   simp only [List.drop_succ_cons,zBc,List.take_succ_cons,List.take_zero] at f0 f1 f2 f3 f4 f5 f6;obtain ⟨op,h0⟩:=zeC f0;obtain ⟨pl,h1⟩:=zeC f1;obtain ⟨a,b,c,d,h2,hr⟩:=zoH f2;obtain ⟨s,h3,_,hs⟩:=zp2 f3;obtain ⟨mn,h4⟩:=zeC f4;obtain ⟨mx,h5⟩:=zeC f5;obtain ⟨nl,l,h6,h7,h8,h9,h10,h11⟩:=typedL n x9 f6;simp only [zAu,zBO] at h0 h1 h2 h3 h4 h5;obtain ⟨rfl,rfl,rfl,rfl⟩:=h2;subst h0 h1 h3 h4 h5 h6
   exact ⟨.mk op pl a b c d s mn mx nl l,rfl,⟨⟨hs,h7,h8⟩,h11,h9⟩,hr,h10⟩
theorem typedL:∀ (n:Nat) (v:V),qR Tryz.prog n 25 [v]->∃ nl l,v=jp nl (encs l)/\l.length<=maxLen/\Wfs l/\Cans l/\Rgs l/\(nl=true->l=[])
 | 0,_,h=>h.elim
 | n+1,v,h=>by
  simp only [qR,Tryz.underlying25,c27] at h;rcases h with h|⟨ys,h,⟨hl,_⟩,hy⟩
  ·simp only [zAu,zBO] at h;exact ⟨true,[],by rw [h];rfl,by simp,trivial,trivial,trivial,fun _=>rfl⟩
  ·simp only [zAu,zBO] at h;obtain ⟨l,h1,h2,h3,h4⟩:=encs_ex ys fun y hyy=>by
    obtain ⟨cs,g1,g2⟩:=hy y hyy;rw [zrB] at g2;rw [g2];exact typedE n cs g1
   subst h1;rw [encs_length] at hl;exact ⟨false,l,by rw [h];rfl,hl,h2,h3,h4,fun h=>by cases h⟩
end
abbrev Tx:=Bool×List Nat
def txV (p:Tx):V:=qD p.1 p.2
def zjc (nl:Bool) (l:List Tx):V:=Sx.lv 1 nl (l.map txV)
def zlz (p:Tx):Prop:=p.2.length<=maxLen/\∀ b∈p.2,b<256
theorem zoI {n:Nat} {xs:List V} (h:qR Tryz.prog n 34 xs):∃ p:Tx,xs=[txV p]/\zlz p:=by
 cases n with
 | zero=>exact h.elim
 | succ n =>
  simp only [qR,Tryz.underlying34,c5'] at h;rcases h with h|⟨ys,h,⟨hl,_⟩,hy⟩
  ·exact ⟨(true,[]),h,by simp [zlz]⟩
  ·obtain ⟨l,h1,h2⟩:=zcd (h:=fun b:Nat=>V.int .u8 (b:Nat)) (Q:=fun b=>b<256) ys fun y hyy=>by
    obtain ⟨ds,g1,g2⟩:=hy y hyy;obtain ⟨z,g3,g4⟩:=zp1 g1;rw [g3,mk5] at g2;exact ⟨z,g2.symm,g4⟩
   subst h1;rw [zAo] at hl;exact ⟨(false,l),h,hl,h2⟩
theorem zoJ {n:Nat} {v:V} (h:qR Tryz.prog n 28 [v]):∃ nl l,v=zjc nl l/\l.length<=maxLen/\∀ p∈l,zlz p:=by
 cases n with
 | zero=>exact h.elim
 | succ n =>
  simp only [qR,Tryz.underlying28,c34] at h;rcases h with h|⟨ys,h,⟨hl,_⟩,hy⟩
  ·simp only [zAu,zBO] at h;exact ⟨true,[],by rw [h];rfl,by simp,by simp⟩
  ·simp only [zAu,zBO] at h;obtain ⟨l,h1,h2⟩:=zcd (h:=txV) (Q:=zlz) ys fun y hyy=>by
    obtain ⟨cs,g1,g2⟩:=hy y hyy;obtain ⟨p,g3,g4⟩:=zoI g1;rw [g3,zrC] at g2;exact ⟨p,g2.symm,g4⟩
   subst h1;rw [zAo] at hl;exact ⟨false,l,by rw [h];rfl,hl,h2⟩
end Go.Proofs.YtlnijcffanjieaaGreatDoor
namespace Go.Proofs.YtlnijcffanjieaaGreatDoor
set_option maxRecDepth 10000
open Go Go.Vm Go.Vm.Sx
abbrev P23:=(Bool×List Co)×(Bool×List Int)×(Bool×List Nat)
def zeD (p:P23):List V:=[qS p.1.1 p.1.2,qx p.2.1.1 p.2.1.2,qD p.2.2.1 p.2.2.2]
structure Q23 (p:P23):Prop where
 c:∀ c∈p.1.2,GdC c
 l:p.1.2.length<2 ^ 60
 a:p.2.1.2.length * 8<=140737488355328
 t:∀ b∈p.2.2.2,b<256
theorem map_encC:∀ {l l':List Co},(∀ c∈l,zc8 c)->(∀ c∈l',zc8 c)->l.map kM=l'.map kM->l=l'
 | [],[],_,_,_=>rfl
 | [],_::_,_,_,h=>by simp at h
 | _::_,[],_,_,h=>by simp at h
 | c::l,c'::l',h1,h2,h=>by
  simp only [zAX,zAu] at h;rw [zh9 (h1 c (zAN ..)) (h2 c' (zAN ..)) h.1,map_encC (fun x hx=>h1 x (zAE _ hx)) (fun x hx=>h2 x (zAE _ hx)) h.2]
theorem intI_inj:∀ {a b:List Int},ja a=ja b->a=b
 | [],[],_=>rfl
 | [],_::_,h=>by simp [ja] at h
 | _::_,[],h=>by simp [ja] at h
 | x::a,y::b,h=>by
  simp only [ja,zAX,zAu,V.int.injEq,zAc] at h;rw [h.1,intI_inj h.2]
theorem zil {p q:P23} (hp:Q23 p) (hq:Q23 q) (h:zeD p=zeD q):p.1.2=q.1.2/\p.2.1.2=q.2.1.2/\p.2.2.2=q.2.2.2:=by
 simp only [zeD,zAu,zBO] at h;have h1:=congrArg vL h.1;have h2:=congrArg vL h.2.1;rw [yF,yF] at h1;rw [zkm,zkm] at h2;have hcan:∀ {p:P23},Q23 p->∀ c∈p.1.2,zc8 c:=fun hp c hc=>⟨(hp.c c hc).1.1.2,(hp.c c hc).2.1.2⟩;exact ⟨map_encC (hcan hp) (hcan hq) h1,intI_inj h2,zox h.2.2⟩
def F23 (p:P23):V:=zeR p.1.2 p.2.1.2 p.2.2.2
def F24 (p:P23):V:=zez p.1.2 p.2.1.2 p.2.2.2
theorem i23:∀ p q,Q23 p->Q23 q->zeD p=zeD q->F23 p=F23 q:=fun p q hp hq h=>by
 obtain ⟨h1,h2,h3⟩:=zil hp hq h;simp only [F23,h1,h2,h3]
theorem i24:∀ p q,Q23 p->Q23 q->zeD p=zeD q->F24 p=F24 q:=fun p q hp hq h=>by
 obtain ⟨h1,h2,h3⟩:=zil hp hq h;simp only [F24,h1,h2,h3]
noncomputable def gl2:Gl:={ g:=glw,hk:=fun f args=>if Nat.beq f 23 then hkX zeD Q23 F23 args else if Nat.beq f 24 then hkX zeD Q23 F24 args else if Nat.beq f 12 then (match args with|[]=>some (.bool true)|_=>none) else if Nat.beq f 14 then hkX zpU Q14 (fun p=>zeP p.1 p.2.2) args else none }
theorem znt {α:Type} {f:α->Nat}:∀ {l:List α} {x:α},x∈l->f x<=(l.map f).sum
 | y::l,x,h=>by
  simp only [zAX,List.sum_cons];rcases zAM.1 h with rfl|h
  ·omega
  ·have:=znt (f:=f) h;omega
theorem zkr (l:List Co) (a:List Int) (t:List Nat):∃ n,Fuel l a t n :=
 ⟨a.length+l.length+6+(l.map fun c=>2 * YtlnijcffanjieaaGreatDoor.hg (kj c)+t.length+2).sum,⟨by omega,fun c hc=>by have:=znt (f:=fun c=>2 * YtlnijcffanjieaaGreatDoor.hg (kj c)+t.length+2) hc;omega⟩⟩
theorem zim (p:P23):tops (zeD p)=0:=by simp [zeD,tops,zev,zh7,za0]
theorem zin (l:List Co) (a:List Int) (t:List Nat):(zeR l a t).top=0:=by unfold zeR;split<;>rfl
theorem zio (l:List Co) (a:List Int) (t:List Nat):(zez l a t).top=0:=by unfold zez;split<;>rfl
theorem hk2':HkOk Tryz.prog gl2:=by
 refine ⟨fun f args v h d H g w cargs lc h1 h2 h3=>?_,fun n f args H out H' h=>(by cases h),fun _ _ _ _ h=>(by cases h)⟩
 simp only [gl2] at h;split at h
 ·rename_i hf;obtain rfl:f=23:=zAO hf;obtain ⟨p,hq,rfl,rfl⟩:=kL h;obtain ⟨n,hn⟩:=zkr p.1.2 p.2.1.2 p.2.2.2;obtain ⟨H',hc⟩:=e23 (nl:=p.1.1) (al:=p.2.1.1) (tl:=p.2.2.1) hn hq.a hq.l hq.c hq.t;exact wi mixed numOk primOk hkM hc (zim p) (zin ..) h1 h2 h3
 ·split at h
  ·rename_i hf;obtain rfl:f=24:=zAO hf;obtain ⟨p,hq,rfl,rfl⟩:=kL h;obtain ⟨n,hn⟩:=zkr p.1.2 p.2.1.2 p.2.2.2;obtain ⟨H',hc⟩:=e24 (nl:=p.1.1) (al:=p.2.1.1) (tl:=p.2.2.1) hn hq.a hq.l hq.c hq.t;exact wi mixed numOk primOk hkM hc (zim p) (zio ..) h1 h2 h3
  ·split at h
   ·rename_i hf;obtain rfl:f=12:=zAO hf;split at h
    ·cases h;exact ok3.pure 12 [] (.bool true) rfl d H g w cargs lc h1 h2 h3
    ·cases h
   ·split at h
    ·rename_i hf;obtain rfl:f=14:=zAO hf;obtain ⟨⟨e,nl,t⟩,hq,rfl,rfl⟩:=kL h;obtain ⟨H',hc⟩:=e14 GWb (nl:=nl) hq.1.1 hq.1.2 hq.2.1 hq.2.2 (zAR _);exact wi mixed numOk primOk hkb hc (by simp [tops,top_enc,za0]) (zh2 e t) h1 h2 h3
    ·cases h
instance : NoU gl2:=⟨fun _=>rfl,fun _ _ _ _=>rfl⟩
theorem GL2:GL gl2 where
 top:=top_glw
 no:=fun f hf args=>by
  simp only [List.any_cons,List.any_nil,zBs,zBW] at hf;simp only [gl2,hf.1,hf.2.1,hf.2.2.2.1,hf.2.2.2.2.1,zAD,if_false]
theorem fv12:Ev Tryz.prog gl2 12 [] [] (.bool true) []:=Sx.Ev.hook (xs:=[]) rfl rfl
theorem zoK {nl al tl:Bool} {l:List Co} {a:List Int} {t:List Nat} (h:Q23 ((nl,l),(al,a),(tl,t))):Ev Tryz.prog gl2 23 [.d (qS nl l),.d (qx al a),.d (qD tl t)] [] (zeR l a t) [] :=
 Sx.Ev.hook (xs:=[qS nl l,qx al a,qD tl t]) (show gl2.hk 23 _=_ from zaD (a:=((nl,l),(al,a),(tl,t))) i23 h) (zin ..)
theorem zoL {nl al tl:Bool} {l:List Co} {a:List Int} {t:List Nat} (h:Q23 ((nl,l),(al,a),(tl,t))):Ev Tryz.prog gl2 24 [.d (qS nl l),.d (qx al a),.d (qD tl t)] [] (zez l a t) [] :=
 Sx.Ev.hook (xs:=[qS nl l,qx al a,qD tl t]) (show gl2.hk 24 _=_ from zaD (a:=((nl,l),(al,a),(tl,t))) i24 h) (zio ..)
def znu (nl:Bool) (l:List Co) (al:Bool) (a:List Int) (xn:Bool) (x:List Tx):V:=.agg [qS nl l,qx al a,zjc xn x]
theorem zks (nl:Bool) (l:List Tx):kOk (.sl 1) (zjc nl l)=true:=zoc ..
theorem zjd (nl:Bool) (l:List Tx):vL (zjc nl l)=l.map txV:=zj2 ..
theorem tops_tx:∀ l:List Tx,tops (l.map txV)=0
 | []=>rfl
 | a::l=>by simp only [zAX,tops];rw [tops_tx l];simp [txV,za0]
theorem zoM (nl:Bool) (l:List Tx):(zjc nl l).top=0:=by unfold zjc;rw [zee];exact tops_tx l
theorem zoN (nl:Bool) (l:List Co) (al:Bool) (a:List Int) (xn:Bool) (x:List Tx):(znu nl l al a xn x).top=0:=by simp [znu,V.top,tops,zev,zh7,zoM]
theorem kIfc:kOk .ifc .nili=true:=rfl
end Go.Proofs.YtlnijcffanjieaaGreatDoor
namespace Go.Proofs.YtlnijcffanjieaaGreatDoor
set_option maxRecDepth 10000
open Go Go.Vm Go.Vm.Sx
theorem zqX {x:V}:vU Tryz.prog [54] [.d x] 0:=by
 refine ⟨fun e=>?_,trivial⟩;rw [Tryz.underlying54];simp
theorem zkt {l:List Tx} {i:Nat} {p:Tx} (h:l[i]?=some p):nth (l.map txV) i=some (qD p.1 p.2):=by rw [zr,zAj,h];rfl
theorem kErA:kOk .ifc erA=true:=rfl
theorem zoO {t:List Nat} (h:∀ b∈t,b<256) (n:Nat):∀ b∈t.take n,b<256:=fun b hb=>h b (zA8 hb)
theorem zku {t:List Nat} (h:∀ b∈t,b<256):∀ b∈za9 t,b<256:=by
 unfold za9;split
 ·exact zoO h 40
 ·exact h
theorem zrD {x:Option (Nat×List V)} {j:Nat} {vs:List V}:x=some (j,vs)->(match x with|some (j,vs)=>some (j+1,vs)|none=>none)=some (j+1,vs):=fun h=>by subst h;rfl
end Go.Proofs.YtlnijcffanjieaaGreatDoor
