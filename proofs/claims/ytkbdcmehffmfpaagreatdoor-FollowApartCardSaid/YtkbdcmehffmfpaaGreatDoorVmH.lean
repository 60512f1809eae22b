/- Seat 5: what the walks stand on; Seat 5: expressions as data; Seat 5: what expressions are checked by, how great they are, out of their trees; and what follows from it. Conditions: none but those that each theorem names. -/
import Derived.Test.YtkbdcmehffmfpaaGreatDoorProg
import Derived.KernelRfl
import Derived.Test.YtkbdcmehffmfpaaGreatDoorVmE
import Derived.Test.YtkbdcmehffmfpaaGreatDoorVmG
namespace Go.Proofs.YtkbdcmehffmfpaaGreatDoor
set_option maxRecDepth 100000
open Go Go.Vm
def uqw (e:TypeId):Bool:=Nat.beq e 60 || Nat.beq e 92 || Nat.beq e 62
structure GW (gl:Gl):Prop where
 uq:gl.uq=uqw
 hk2:∀ n f args H,gl.hk2 n f args H=none
 tab:∀ o,o<64→gl.g 3 o=nth bruT o
 hk:∀ f args,([17,18,19,20,21,31,32,33,34,35,36,37,38,39,7].any (Nat.beq f))=true→gl.hk f args=none
theorem sz39:szOf Tryz.prog 39=some 1:=by kernel_rfl
theorem agg39:aggT Tryz.prog 39=some false:=by kernel_rfl
theorem u60:Tryz.prog.underlying 60=some (.array 19 39):=by kernel_rfl
theorem iaddr60 {b off i:Nat} (h:i<19):indexAddrA Tryz.prog 60 (.ptr b off) i=some (.ptr b (off+i)):=by
 simp only [indexAddrA,u60,sz39]
 simp;omega
variable {gl:Gl}
theorem add_run (hg:GW gl) {n:Nat} {bs:List Blk} {es:List (Nat×Nat)} {b off:Nat} {pre post:List V} {p:Nat→Bool} {ty:TypeId} {k:Nat} (hb:nth bs b=some (.cells (pre++pv 19 p++post) ty)) (ho:pre.length=off) (hk:k<1216) :
  callA Tryz.prog gl (n+1) 18 [.ptr b off,.int .i64 k] ⟨bs,es⟩=some (.ret (.tup []),⟨bs.set b (.cells (pre++pv 19 (addP p k)++post) ty),es⟩):=by
 have hi:k / 64<19:=by omega
 have hget:Hp.get ⟨bs,[]⟩ b=some (.cells (pre++pv 19 p++post) ty):=hb
 have hcell:nth (pre++pv 19 p++post) (off+k / 64)=some (.int .u64 (word p (k / 64):Nat)):=by
  rw [nth_eq,← ho,get_mid pv_len hi,pv_get hi]
 have hld:loadA Tryz.prog ⟨bs,[]⟩ gl.g 39 (.ptr b (off+k / 64))=some (.int .u64 (word p (k / 64):Nat)):=by
  rw [loadA_ptr,hget,loadB_some,partA_eq,agg39,sz39,partO_f,hcell]
 have hmay:mayA [] b (off+k / 64) 1 ((pre++pv 19 p++post).drop (off+k / 64))=true:=mayA_drop fun i h=>by
  obtain rfl:i=0:=by omega
  exact ⟨_,by rw [Nat.add_zero,← nth_eq,hcell],rfl⟩
 refine go_intro (hg.hk _ _ (by decide)) (fun H=>hg.hk2 _ _ _ _) Tryz.func18 rfl ?_
 rw [hg.uq]
 refine go_draw' (tk:=[]) (by kernel_rfl) (by kernel_rfl) ?_
 simp only [Tryz.f18,List.replicate,List.length,List.cons_append,List.nil_append]
 simp only [go_on,ldChk,agg39,true_and,op_move0,op_binOp,op_nilCheck,op_indexAddr,op_load0,op_store_x,peek,take_tmp,takeV_int,nth_cons0,nth_cons,rdQ_some,opQ_val,putA,List.set_cons_zero,List.set_cons_succ,clr_ptr,clr_int,Option.map_some,Option.bind_some,derefA,idxV,ofVal,
  bin_quo64 (show k<2 ^ 60 by omega),iaddr60 hi,hld,bin_rem64,bin_shl1 (Nat.mod_lt k (by decide)),bin_or64 word_lt (Nat.pow_lt_pow_right (show 1<2 by decide) (Nat.mod_lt k (show 64 > 0 by decide))),word_add,storX,sz39]
 rw [storeQ_at (n:=1) hget rfl rfl (by simp [pv_len,← ho];omega) hmay]
 simp only [opQ_skip,go_on_nil,go_nil,Vm.Fin,V.laid,Vm.storeCells,putA]
 refine ⟨trivial,[],rfl,rfl,?_⟩
 rw [edge0 (by simp [V.top]),← ho,set_mid pv_len hi,pv_set]
 have:=finishH_clean (bs:=bs.set b (.cells (pre++pv 19 (addP p k)++post) ty)) (ls:=[]) (es:=es) (t:=0) (Nat.zero_le _)
 rw [List.append_nil,List.length_set] at this
 exact this.symm
end Go.Proofs.YtkbdcmehffmfpaaGreatDoor
namespace Go.Proofs.YtkbdcmehffmfpaaGreatDoor
open Go Go.Vm
inductive E where
 |mk (op pl s0 s1 s2 s3:Int) (text:List Nat) (mn mx:Int) (nl:Bool) (args:List E)
def argV (nl:Bool) (l:List V):V:=if nl && l.isEmpty then .snil else .sl 10 l .no
mutual
def enc:E→V
 | .mk op pl s0 s1 s2 s3 text mn mx nl args=>.agg [.int .i64 op,.int .i64 pl,.int .u64 s0,.int .u64 s1,.int .u64 s2,.int .u64 s3,.str text,.int .i64 mn,.int .i64 mx,argV nl (encs args)]
def encs:List E→List V
 | []=>[]
 | e::es=>enc e::encs es
end
theorem encs_length:∀ (l:List E),(encs l).length=l.length
 | []=>rfl
 | e::l=>by simp [encs,encs_length l]
theorem encs_get:∀ (l:List E) (i:Nat),(encs l)[i]?=(l[i]?).map enc
 | [],i=>by simp [encs]
 | e::l,0=>by simp [encs]
 | e::l,i+1=>by simp [encs,encs_get l i]
theorem argV_cases (nl:Bool) (l:List V):argV nl l=.sl 10 l .no∨(l=[]∧argV nl l=.snil):=by
 unfold argV
 split
 ·rename_i h
  rw [Bool.and_eq_true] at h
  exact .inr ⟨by simpa using h.2,rfl⟩
 ·exact .inl rfl
theorem clr_argV {nl:Bool} {l:List V}:clr (argV nl l)=argV nl l:=by
 rcases argV_cases nl l with h|⟨_,h⟩<;>rw [h]<;>rfl
theorem top_argV {nl:Bool} {l:List V}:(argV nl l).top=tops l:=by
 rcases argV_cases nl l with h|⟨hl,h⟩<;>rw [h]
 ·rfl
 ·rw [hl];rfl
mutual
theorem top_enc:∀ (e:E),(enc e).top=0
 | .mk op pl s0 s1 s2 s3 text mn mx nl args=>by
  simp only [enc,V.top,tops,top_argV,tops_encs args]
  rfl
theorem tops_encs:∀ (l:List E),tops (encs l)=0
 | []=>rfl
 | e::l=>by simp [encs,tops,top_enc e,tops_encs l]
end
theorem w64 {x:Int} (h1:-9223372036854775808≤x) (h2:x≤9223372036854775807):IntKind.i64.wrap x=x:=by
 simp only [IntKind.wrap,IntKind.bits,IntKind.signed]
 simp
 omega
theorem w64s {i:Nat} (h:i<9223372036854775807):IntKind.i64.wrap ((i:Int)+1)=((i+1:Nat):Int):=by
 rw [w64 (by omega) (by omega)];omega
mutual
def Wf:E→Prop
 | .mk _ _ _ _ _ _ text _ _ _ args=>text.length≤maxLen∧args.length≤maxLen∧Wfs args
def Wfs:List E→Prop
 | []=>True
 | e::l=>Wf e∧Wfs l
end
theorem Wfs.mem {a:E}:∀ {l:List E},Wfs l→a∈l→Wf a
 | e::l,h,ha=>by
  rcases List.mem_cons.1 ha with rfl|ha
  ·exact h.1
  ·exact Wfs.mem h.2 ha
theorem maxLen_le:maxLen≤9223372036854775807:=by decide
mutual
def hg:E→Nat
 | .mk _ _ _ _ _ _ _ _ _ _ args=>hgs args+args.length+2
def hgs:List E→Nat
 | []=>0
 | e::l=>max (hg e) (hgs l)
end
theorem hg_le {a:E}:∀ {l:List E},a∈l→hg a≤hgs l
 | e::l,h=>by
  simp only [hgs]
  rcases List.mem_cons.1 h with rfl|h
  ·exact Nat.le_max_left _ _
  ·exact Nat.le_trans (hg_le h) (Nat.le_max_right _ _)
end Go.Proofs.YtkbdcmehffmfpaaGreatDoor
namespace Go.Proofs.YtkbdcmehffmfpaaGreatDoor
set_option maxRecDepth 10000
open Go Go.Vm Go.Vm.Sx
theorem kArg (nl:Bool) (l:List V):kOk (.sl 10) (argV nl l)=true:=by
 rcases argV_cases nl l with h|⟨_,h⟩<;>rw [h]<;>rfl
theorem vL_arg (nl:Bool) (l:List V):vL (argV nl l)=l:=by
 rcases argV_cases nl l with h|⟨h0,h⟩<;>rw [h]
 ·rfl
 ·rw [h0];rfl
theorem nth_encs {l:List E} {i:Nat} {a:E} (h:l[i]?=some a):nth (encs l) i=some (enc a):=by rw [nth_eq,encs_get,h];rfl
variable {gl:Gl} [NoU gl]
structure GL (gl:Gl):Prop where
 top:∀ g off v,gl g off=some v→v.top=0
 no:∀ f,[6,7,8].any (Nat.beq f)=false→∀ args,gl.hk f args=none
theorem lent71:lentP Tryz.prog Tryz.f71.params.toList=some []:=by kernel_rfl
theorem lent72:lentP Tryz.prog Tryz.f72.params.toList=some []:=by kernel_rfl
theorem lent11:lentP Tryz.prog Tryz.f11.params.toList=some []:=by kernel_rfl
theorem parE {x:V}:ParOk Tryz.prog [45] [.d x] 0:=by
 refine ⟨fun e=>?_,trivial⟩
 rw [Tryz.underlying45];simp
theorem parEI {x y:V}:ParOk Tryz.prog [45,3] [.d x,.d y] 0:=by
 refine ⟨fun e=>?_,fun e=>?_,trivial⟩
 ·rw [Tryz.underlying45];simp
 ·rw [Tryz.underlying3];simp
def leanB:E→Bool
 | .mk op pl s0 s1 s2 s3 text mn mx _ _=>((pl == 0 && eqL text []) && (op == 2 || (s0 == 0 && (s1 == 0 && (s2 == 0 && s3 == 0))))) && (op == 7 || (mn == 0 && mx == 0))
def kindB:E→Bool
 | .mk op _ _ _ _ _ _ mn mx _ args =>
  if op == 1 then (args.length:Int) == 0 else if op == 2 then (args.length:Int) == 0 else if op == 5 then ltz 1 (args.length:Int) else if op == 6 then ltz 1 (args.length:Int) else
  if op == 7 then (args.length:Int) == 1 && ((mn == 0 && mx == -1 || mn == 1 && mx == -1) || mn == 0 && mx == 1) else false
theorem ev71 (hgl:GL gl):∀ (e:E),Ev Tryz.prog gl 71 [.d (enc e)] [] (.bool (leanB e)) []
 | .mk op pl s0 s1 s2 s3 text mn mx nl args=>by
  refine fun_pure (xs:=[enc (.mk op pl s0 s1 s2 s3 text mn mx nl args)]) hgl.top (hgl.no 71 rfl) tree71_ok Tryz.func71 lent71 parE (by simp [tops,top_enc]) (N:=1) ?_
  simp only [tree71,enc]
  simp only [ev_out,ev_letv,ev_opn,at_z,at_s,ks_cons,kInt,kStr,ks_nil,Bool.and_self,bif_t,cons_app,nil_app,evB,evI,evS,evCs,evC,evSC,evVE,vI_int,vS_str,cm_eql,cmS,kArg,leanB]
theorem ev72 (hgl:GL gl):∀ (e:E),Ev Tryz.prog gl 72 [.d (enc e)] [] (.bool (kindB e)) []
 | .mk op pl s0 s1 s2 s3 text mn mx nl args=>by
  refine fun_pure (xs:=[enc (.mk op pl s0 s1 s2 s3 text mn mx nl args)]) hgl.top (hgl.no 72 rfl) tree72_ok Tryz.func72 lent72 parE (by simp [tops,top_enc]) (N:=1) ?_
  simp only [tree72,enc,kindB]
  cases h1:op == 1 with
  | true=>simp only [ev_t,ev_out,ev_letv,ev_opn,at_z,at_s,ks_cons,kInt,kStr,ks_nil,Bool.and_self,bif_t,cons_app,nil_app,evB,evI,evL,evCs,evC,evSC,evVE,vI_int,cm_eql,kArg,vL_arg,h1,encs_length,if_true]
  | false =>
  cases h2:op == 2 with
  | true=>simp only [ev_t,ev_f,ev_out,ev_letv,ev_opn,at_z,at_s,ks_cons,kInt,kStr,ks_nil,Bool.and_self,bif_t,cons_app,nil_app,evB,evI,evL,evCs,evC,evSC,evVE,vI_int,cm_eql,kArg,vL_arg,h1,h2,encs_length,if_true,if_false,Bool.false_eq_true]
  | false =>
  cases h3:op == 5 with
  | true=>simp only [ev_t,ev_f,ev_out,ev_letv,ev_opn,at_z,at_s,ks_cons,kInt,kStr,ks_nil,Bool.and_self,bif_t,cons_app,nil_app,evB,evI,evL,evCs,evC,evSC,evVE,vI_int,cm_gtr,cm_eql,kArg,vL_arg,h1,h2,h3,encs_length,if_true,if_false,Bool.false_eq_true]
  | false =>
  cases h4:op == 6 with
  | true=>simp only [ev_t,ev_f,ev_out,ev_letv,ev_opn,at_z,at_s,ks_cons,kInt,kStr,ks_nil,Bool.and_self,bif_t,cons_app,nil_app,evB,evI,evL,evCs,evC,evSC,evVE,vI_int,cm_gtr,cm_eql,kArg,vL_arg,h1,h2,h3,h4,encs_length,if_true,if_false,Bool.false_eq_true]
  | false =>
  cases h5:op == 7 with
  | true=>simp only [ev_t,ev_f,ev_out,ev_letv,ev_opn,at_z,at_s,ks_cons,kInt,kStr,ks_nil,Bool.and_self,bif_t,cons_app,nil_app,evB,evI,evL,evCs,evC,evSC,evVE,vI_int,cm_eql,kArg,vL_arg,h1,h2,h3,h4,h5,encs_length,if_true,if_false,Bool.false_eq_true]
  | false=>simp only [ev_f,ev_out,ev_letv,ev_opn,at_z,at_s,ks_cons,kInt,kStr,ks_nil,Bool.and_self,bif_t,cons_app,nil_app,evB,evI,evCs,evC,evSC,evVE,vI_int,cm_eql,kArg,h1,h2,h3,h4,h5,if_false,Bool.false_eq_true]
mutual
def sizeM:E→Int→Int
 | .mk _ _ _ _ _ _ _ _ _ _ args,deep=>if ltz 5000 deep then 1048576 else sizeF (IntKind.i64.wrap (deep+1)) 1 args
def sizeF:Int→Int→List E→Int
 | _,n,[]=>n
 | d,n,a::l=>if ltz n 1048576 then sizeF d (IntKind.i64.wrap (n+sizeM a d)) l else n
end
theorem ev11 (hgl:GL gl):∀ (e:E),Wf e→∀ d,Ev Tryz.prog gl 11 [.d (enc e),.d (.int .i64 d)] [] (.int .i64 (sizeM e d)) []
 | .mk op pl s0 s1 s2 s3 text mn mx nl args,hw=>by
  intro d
  have hml:=maxLen_le
  have hlen:=hw.2.1
  have hargs:∀ i a,args[i]?=some a→∀ d,phE Tryz.prog gl 11 [.d (enc a),.d (.int .i64 d)] []=some (.int .i64 (sizeM a d),[]):=fun i a h d =>
   have ha:=List.mem_of_getElem? h
   phE_eq (ev11 hgl a (hw.2.2.mem ha) d)
  refine fun_pure (xs:=[enc (.mk op pl s0 s1 s2 s3 text mn mx nl args),.int .i64 d]) hgl.top (hgl.no 11 rfl) tree11_ok Tryz.func11 lent11 parEI (by simp [tops,top_enc];rfl) (N:=args.length+1) ?_
  have key:∀ (l:List E) (i:Nat) (n:Int),args.drop i=l→∀ k,l.length<k→loopI (phE Tryz.prog gl) gl (args.length+1) lp11_1
    [.agg [.int .i64 op,.int .i64 pl,.int .u64 s0,.int .u64 s1,.int .u64 s2,.int .u64 s3,.str text,.int .i64 mn,.int .i64 mx,argV nl (encs args)],.int .i64 d,.int .i64 op,.int .i64 pl,.int .u64 s0,.int .u64 s1,.int .u64 s2,.int .u64 s3,.str text,.int .i64 mn,.int .i64 mx,argV nl (encs args)]
    k [.int .i64 n,.int .i64 (i:Int)]=some (0,[.int .i64 (sizeF (IntKind.i64.wrap (d+1)) n l)]):=by
   simp only [lp11_1]
   intro l
   induction l with
   | nil =>
    intro i n hd k hk
    obtain ⟨k,rfl⟩:∃ k',k=k'+1:=⟨k - 1,by omega⟩
    refine loopI_end ?_
    have h1:=ltn_f (drop_none hd)
    simp only [ev_f,ev_out,ev_esc,ev_letv,at_z,at_s,Bool.false_and,cons_app,nil_app,evB,evI,evL,evCs,evC,evSC,evVE,vI_int,cm_lss,clr_int,vL_arg,h1,encs_length,sizeF]
   | cons a l ih =>
    intro i n hd k hk
    obtain ⟨k,rfl⟩:∃ k',k=k'+1:=⟨k - 1,by omega⟩
    obtain ⟨ha,hi,hd'⟩:=drop_cons hd
    have h1:=ltn_t hi
    cases h5:ltz n 1048576 with
    | false =>
     refine loopI_end ?_
     simp only [ev_f,ev_out,ev_esc,ev_letv,at_z,at_s,Bool.and_false,cons_app,nil_app,evB,evI,evL,evCs,evC,evSC,evVE,vI_int,cm_lss,clr_int,vL_arg,h1,h5,encs_length,sizeF,if_false,Bool.false_eq_true]
    | true =>
    refine loopI_go (vs:=[.int .i64 (IntKind.i64.wrap (n+sizeM a (IntKind.i64.wrap (d+1)))),.int .i64 ((i+1:Nat):Int)]) ?_ (by simp only [sizeF,h5,if_true];exact ih (i+1) _ hd' k (by simp at hk;omega))
    have hc:=hargs i a ha
    have h2:=nth_encs ha
    have h4:=w64s (i:=i) (by omega)
    obtain ⟨op',pl',s0',s1',s2',s3',text',mn',mx',nl',args'⟩:=a
    simp only [enc] at hc h2
    simp only [ev_t,ev_out,ev_elem,ev_opn,ev_kin,ev_call,at_z,at_s,ks_cons,kInt,kStr,ks_nil,Bool.and_self,bif_t,bif_f,cons_app,nil_app,evB,evI,evL,evCs,evC,evSC,evAs,evA,evLent,vI_int,cm_lss,biI,ltn_0,joinL,sizesOk,kArg,vL_arg,h1,h2,h4,h5,hc,encs_length,Int.toNat_natCast]
  simp only [tree11,enc,sizeM]
  cases hd:ltz 5000 d with
  | true=>simp only [ev_t,ev_out,ev_letv,ev_opn,ev_kin,at_z,at_s,ks_cons,kInt,kStr,ks_nil,Bool.and_self,bif_t,cons_app,nil_app,evB,evI,evCs,evC,evSC,evVE,vI_int,cm_gtr,kArg,hd,if_true]
  | false =>
   simp only [ev_f,ev_opn,ev_kin,ev_loop,at_z,at_s,ks_cons,kInt,kStr,ks_nil,Bool.and_self,bif_t,cons_app,nil_app,evB,evI,evCs,evC,vI_int,cm_gtr,kArg,hd,if_false,Bool.false_eq_true]
   exact loopT_I (key args 0 _ (by simp) _ (by omega))
termination_by e=>hg e
decreasing_by simp only [hg];have:=hg_le ha;omega
mutual
def partsM:E→Int→Int→Int→Bool×Int×Int
 | .mk op pl s0 s1 s2 s3 text mn mx nl args,d,n,s =>
  if (ltz 65536 (IntKind.i64.wrap (n+1)) || ltz 4096 d) then (false,IntKind.i64.wrap (n+1),s) else
  if leanB (.mk op pl s0 s1 s2 s3 text mn mx nl args) then
   if kindB (.mk op pl s0 s1 s2 s3 text mn mx nl args) then partsF (IntKind.i64.wrap (d+1)) args (IntKind.i64.wrap (n+1)) (if op == 2 then IntKind.i64.wrap (s+1) else s)
   else (false,IntKind.i64.wrap (n+1),s)
  else (false,IntKind.i64.wrap (n+1),s)
def partsF:Int→List E→Int→Int→Bool×Int×Int
 | _,[],n,s=>(true,n,s)
 | d,a::l,n,s=>if (partsM a d n s).1 then partsF d l (partsM a d n s).2.1 (partsM a d n s).2.2 else partsM a d n s
end
def av49 (e:E) (d:Int):List AV:=[.d (enc e),.d (.int .i64 d),.p 0 0,.p 1 0]
def fp49 (n s:Int):List (List V×TypeId):=[([.int .i64 n],3),([.int .i64 s],3)]
def out49 (r:Bool×Int×Int):List (List V):=[[.int .i64 r.2.1],[.int .i64 r.2.2]]
theorem lent49:lentP Tryz.prog Tryz.f49.params.toList=some [(3,[.int .i64]),(3,[.int .i64])]:=by kernel_rfl
theorem par49 {x y:V}:ParOk Tryz.prog [45,3,121,121] [.d x,.d y,.p 0 0,.p 1 0] 0:=by
 refine ⟨fun e=>?_,fun e=>?_,⟨3,Tryz.underlying121⟩,rfl,rfl,⟨3,Tryz.underlying121⟩,rfl,rfl,trivial⟩
 ·rw [Tryz.underlying45];simp
 ·rw [Tryz.underlying3];simp
theorem ev49 (hgl:GL gl):∀ (e:E),Wf e→∀ d n s,Ev Tryz.prog gl 49 (av49 e d) (fp49 n s) (.bool (partsM e d n s).1) (out49 (partsM e d n s))
 | .mk op pl s0 s1 s2 s3 text mn mx nl args,hw=>by
  intro d n s
  have hml:=maxLen_le
  have hlen:=hw.2.1
  have hargs:∀ i a,args[i]?=some a→∀ d n s,phE Tryz.prog gl 49 (av49 a d) (fp49 n s)=some (.bool (partsM a d n s).1,out49 (partsM a d n s)):=fun i a h d n s =>
   have ha:=List.mem_of_getElem? h
   phE_eq (ev49 hgl a (hw.2.2.mem ha) d n s)
  refine xFun_ok (N:=args.length+1) (env_of hgl.top) (hgl.no 49 rfl) tree49_ok Tryz.func49 lent49 (avs:=av49 _ d) (by rw [Tryz.params49];exact par49) (fp:=fp49 n s) (show FpOk [(3,[.int .i64]),(3,[.int .i64])] (fp49 n s) from ⟨rfl,rfl,rfl,rfl,rfl,rfl,trivial⟩) (fun x hx=>?_) (show szOk (fp49 n s) (out49 _) from ⟨rfl,rfl,trivial⟩) ?_
  ·simp only [av49,List.mem_cons,AV.d.injEq,reduceCtorEq,List.not_mem_nil,or_false] at hx
   rcases hx with rfl|rfl
   ·exact top_enc _
   ·rfl
  have key:∀ (l:List E) (i:Nat) (n' s':Int),args.drop i=l→∀ k,l.length<k→loopI (phE Tryz.prog gl) gl (args.length+1) lp49_1
    [.agg [.int .i64 op,.int .i64 pl,.int .u64 s0,.int .u64 s1,.int .u64 s2,.int .u64 s3,.str text,.int .i64 mn,.int .i64 mx,argV nl (encs args)],.int .i64 d,.nilp,.nilp,.int .i64 n,.int .i64 s,.int .i64 op,.int .i64 pl,.int .u64 s0,.int .u64 s1,.int .u64 s2,.int .u64 s3,.str text,.int .i64 mn,.int .i64 mx,argV nl (encs args),.bool true,.bool true]
    k [.int .i64 (i:Int),.int .i64 n',.int .i64 s']=some (0,[.bool (partsF (IntKind.i64.wrap (d+1)) l n' s').1,.int .i64 (partsF (IntKind.i64.wrap (d+1)) l n' s').2.1,.int .i64 (partsF (IntKind.i64.wrap (d+1)) l n' s').2.2]):=by
   simp only [lp49_1]
   intro l
   induction l with
   | nil =>
    intro i n' s' hd k hk
    obtain ⟨k,rfl⟩:∃ k',k=k'+1:=⟨k - 1,by omega⟩
    refine loopI_end ?_
    have h1:=ltn_f (drop_none hd)
    simp only [ev_f,ev_out,ev_esc,ev_letv,at_z,at_s,cons_app,nil_app,evB,evI,evL,evCs,evC,evSC,evVE,vI_int,cm_lss,vL_arg,h1,encs_length,partsF]
   | cons a l ih =>
    intro i n' s' hd k hk
    obtain ⟨k,rfl⟩:∃ k',k=k'+1:=⟨k - 1,by omega⟩
    obtain ⟨ha,hi,hd'⟩:=drop_cons hd
    have h1:=ltn_t hi
    have hc:=hargs i a ha (IntKind.i64.wrap (d+1)) n' s'
    have h2:=nth_encs ha
    have h4:=w64s (i:=i) (by omega)
    have hf:partsF (IntKind.i64.wrap (d+1)) (a::l) n' s'=if (partsM a (IntKind.i64.wrap (d+1)) n' s').1 then partsF (IntKind.i64.wrap (d+1)) l (partsM a (IntKind.i64.wrap (d+1)) n' s').2.1 (partsM a (IntKind.i64.wrap (d+1)) n' s').2.2 else partsM a (IntKind.i64.wrap (d+1)) n' s':=by simp only [partsF]
    rw [hf]
    cases hp:(partsM a (IntKind.i64.wrap (d+1)) n' s').1 with
    | false =>
     refine loopI_end ?_
     simp only [Bool.false_eq_true,if_false,hp]
     rw [hp] at hc
     obtain ⟨op',pl',s0',s1',s2',s3',text',mn',mx',nl',args'⟩:=a
     simp only [enc,av49,fp49,out49] at hc h2
     simp only [ev_t,ev_out,ev_esc,ev_letv,ev_elem,ev_opn,ev_kin,ev_call,at_z,at_s,ks_cons,kInt,kStr,kBool,ks_nil,Bool.and_self,Bool.not_false,bif_t,bif_f,cons_app,nil_app,app_nil,evB,evI,evL,evCs,evC,evSC,evAs,evA,evLent,evVE,vI_int,vB_bool,cm_lss,biI,ltn_0,joinL,sizesOk,clr_int,clr_str,Nat.beq_refl,List.length_cons,List.length_nil,kArg,vL_arg,clr_argV,h1,h2,hc,encs_length,Int.toNat_natCast]
    | true =>
     simp only [if_true]
     refine loopI_go (vs:=[.int .i64 ((i+1:Nat):Int),.int .i64 (partsM a (IntKind.i64.wrap (d+1)) n' s').2.1,.int .i64 (partsM a (IntKind.i64.wrap (d+1)) n' s').2.2]) ?_ (ih (i+1) _ _ hd' k (by simp at hk;omega))
     rw [hp] at hc
     obtain ⟨op',pl',s0',s1',s2',s3',text',mn',mx',nl',args'⟩:=a
     simp only [enc,av49,fp49,out49] at hc h2
     simp only [ev_t,ev_f,ev_out,ev_elem,ev_opn,ev_kin,ev_call,at_z,at_s,ks_cons,kInt,kStr,kBool,ks_nil,Bool.and_self,Bool.not_true,bif_t,bif_f,cons_app,nil_app,app_nil,evB,evI,evL,evCs,evC,evSC,evAs,evA,evLent,vI_int,vB_bool,cm_lss,biI,ltn_0,joinL,sizesOk,clr_int,clr_str,Nat.beq_refl,List.length_cons,List.length_nil,kArg,vL_arg,clr_argV,h1,h2,h4,hc,encs_length,Int.toNat_natCast]
  have e71:=phE_eq (ev71 hgl (.mk op pl s0 s1 s2 s3 text mn mx nl args))
  have e72:=phE_eq (ev72 hgl (.mk op pl s0 s1 s2 s3 text mn mx nl args))
  simp only [enc] at e71 e72
  simp only [tree49,av49,fp49,out49,rho0,lentV,List.map_cons,List.map_nil,holdA,enc,partsM]
  cases h1:(ltz 65536 (IntKind.i64.wrap (n+1)) || ltz 4096 d) with
  | true=>simp only [ev_f,ev_out,ev_letv,ev_opn,ev_kin,at_z,at_s,ks_cons,kInt,kStr,ks_nil,Bool.and_self,Bool.not_true,bif_t,cons_app,nil_app,app_nil,evB,evI,evCs,evC,evSC,evVE,vI_int,cm_gtr,biI,joinL,kArg,h1,if_true]
  | false =>
  cases h2:leanB (.mk op pl s0 s1 s2 s3 text mn mx nl args) with
  | false=>simp only [ev_t,ev_f,ev_out,ev_letv,ev_opn,ev_kin,ev_call,at_z,at_s,ks_cons,kInt,kStr,kBool,ks_nil,Bool.and_self,Bool.not_false,bif_t,cons_app,nil_app,app_nil,evB,evI,evCs,evC,evSC,evAs,evA,evLent,evVE,vI_int,vB_bool,cm_gtr,biI,joinL,sizesOk,clr_int,clr_str,kArg,clr_argV,h1,e71,h2,if_false,Bool.false_eq_true]
  | true =>
  cases h3:kindB (.mk op pl s0 s1 s2 s3 text mn mx nl args) with
  | false=>simp only [ev_t,ev_out,ev_letv,ev_opn,ev_kin,ev_call,at_z,at_s,ks_cons,kInt,kStr,kBool,ks_nil,Bool.and_self,Bool.not_false,bif_t,cons_app,nil_app,app_nil,evB,evI,evCs,evC,evSC,evAs,evA,evLent,evVE,vI_int,vB_bool,cm_gtr,biI,joinL,sizesOk,clr_int,clr_str,kArg,clr_argV,h1,e71,e72,h2,h3,if_true,if_false,Bool.false_eq_true]
  | true =>
  cases hop:op == 2 with
  | true =>
   simp only [ev_t,ev_f,ev_opn,ev_kin,ev_call,ev_loop,at_z,at_s,ks_cons,kInt,kStr,kBool,ks_nil,Bool.and_self,Bool.not_true,Bool.not_false,bif_t,cons_app,nil_app,app_nil,evB,evI,evCs,evC,evSC,evAs,evA,evLent,vI_int,vB_bool,cm_gtr,cm_eql,biI,joinL,sizesOk,clr_int,clr_str,kArg,clr_argV,h1,e71,e72,h2,h3,hop,if_true,if_false,Bool.false_eq_true]
   exact loopT_I (key args 0 _ _ (by simp) _ (by omega))
  | false =>
   simp only [ev_t,ev_f,ev_opn,ev_kin,ev_call,ev_loop,at_z,at_s,ks_cons,kInt,kStr,kBool,ks_nil,Bool.and_self,Bool.not_true,Bool.not_false,bif_t,cons_app,nil_app,app_nil,evB,evI,evCs,evC,evSC,evAs,evA,evLent,vI_int,vB_bool,cm_gtr,cm_eql,biI,joinL,sizesOk,clr_int,clr_str,kArg,clr_argV,h1,e71,e72,h2,h3,hop,if_true,if_false,Bool.false_eq_true]
   exact loopT_I (key args 0 _ _ (by simp) _ (by omega))
termination_by e=>hg e
decreasing_by simp only [hg];have:=hg_le ha;omega
end Go.Proofs.YtkbdcmehffmfpaaGreatDoor
namespace Go.Proofs.YtkbdcmehffmfpaaGreatDoor
set_option maxRecDepth 100000
open Go Go.Vm
variable {gl:Gl}
theorem u124:Tryz.prog.underlying 124=some (.array 64 5):=by kernel_rfl
theorem sz5:szOf Tryz.prog 5=some 1:=by kernel_rfl
theorem agg5:aggT Tryz.prog 5=some false:=by kernel_rfl
theorem u3:Tryz.prog.underlying 3=some (.int .i64):=by kernel_rfl
theorem u5:Tryz.prog.underlying 5=some (.int .u8):=by kernel_rfl
theorem tz_run (hg:GW gl) {n:Nat} {H:Hp} {k m:Nat} (hw:2 ^ (k+1) * m+2 ^ k<2 ^ 64):callA Tryz.prog gl (n+1) 39 [.int .u64 ((2 ^ (k+1) * m+2 ^ k:Nat):Int)] H=some (.ret (.int .i64 (k:Nat)),H):=by
 obtain ⟨bs,es⟩:=H
 have hk:k<64:=low_lt hw
 obtain ⟨w,w',hwd,hw0,hneg,hand⟩:=low_all (P:=Tryz.prog) hw
 obtain ⟨x,ix,hmul,hshr,hix,htab⟩:=bru_all (P:=Tryz.prog) hk
 rw [← hwd]
 clear hwd hw
 have hfin:finishH bs.length es 0 ⟨bs,[]⟩=⟨bs,es⟩:=by
  have:=finishH_clean (bs:=bs) (ls:=[]) (es:=es) (t:=0) (Nat.zero_le _)
  rwa [List.append_nil] at this
 suffices hmain:(go ⟨Tryz.prog,gl,callA Tryz.prog gl n,uqw⟩ n (Fx Tryz.prog Tryz.f39.results.toList fun w H1=>w=.int .i64 (k:Nat)∧H1=⟨bs,[]⟩) [.c (Tryz.f39.body.getD .skip)] .normal ⟨[.int .u64 (w:Nat)]++List.replicate 13 (.tup []),⟨bs,[]⟩,[],[]⟩) by
  obtain ⟨w,H1,h0,rfl,rfl⟩:=go_intro' (gl:=gl) (f:=39) (bs:=bs) (es:=es) (args:=[.int .u64 (w:Nat)]) (n:=n) (hg.hk _ _ (by decide)) (fun H=>hg.hk2 _ _ _ _) Tryz.func39 rfl (by rw [hg.uq];exact hmain)
  rw [h0]
  exact congrArg (fun x=>some (Out.ret _,x)) hfin
 simp only [Tryz.f39,Option.getD_some,go_seq]
 refine go_reg' (tk:=[]) (by kernel_rfl) ?_
 simp only [go_os,go_os_nil,go_seq,op_assign,take_const,ofVal,Option.map_some,tkQ_some,opQ_val,putA,List.set_cons_zero,List.set_cons_succ,List.replicate,List.cons_append,List.nil_append]
 refine go_reg' (tk:=[]) (by kernel_rfl) ?_
 simp only [go_os,go_os_nil,go_seq,go_cond',op_move0,op_binOp,peek,ofVal,nth_cons0,nth_cons,rdQ_some,opQ_val,putA,List.set_cons_zero,List.set_cons_succ,clr_int,clr_bool,bin_eql,condQ_b]
 refine .inr ⟨by simp;omega,?_⟩
 simp only [go_skip,go_seq]
 refine go_reg' (tk:=[]) (by kernel_rfl) ?_
 have hia:indexAddrA Tryz.prog 124 (.gptr 3 0) ((ix:Nat):Int)=some (.gptr 3 ix):=by
  simp only [indexAddrA,u124,sz5]
  simp only [Int.toNat_natCast]
  rw [if_pos (by omega)]
  simp
 have hld:loadA Tryz.prog ⟨bs,[]⟩ gl.g 5 (.gptr 3 ix)=some (.int .u8 (k:Nat)):=by
  simp only [loadA,agg5,Option.bind_eq_bind,Option.bind_some,Bool.false_eq_true,if_false]
  rw [hg.tab _ hix,htab]
 have hcv:convA Tryz.prog 5 3 (.int .u8 (k:Nat))=some (.int .i64 (k:Nat)):=by
  simp only [convA,u5,u3,Option.bind_eq_bind,Option.bind_some]
  rw [wrap_i64 (by omega) (by omega)]
 simp only [go_os,go_os_nil,op_move0,op_binOp,op_unOp,op_indexAddr,op_load0,op_convert,op_assign,take_tmp,peek,ofVal,nth_cons0,nth_cons,rdQ_some,opQ_val,putA,List.set_cons_zero,List.set_cons_succ,clr_int,clr_gptr,Option.bind_some,Option.map_some,hneg,hand,hmul,hshr,idxV,hia,hld,hcv,takeV_int,tkQ_some,go_ret,go_nil,Fx]
 refine ⟨trivial,[.int .i64 (k:Nat)],?_,rfl,trivial⟩
 simp only [resultsA,nth_cons0,nth_cons]
end Go.Proofs.YtkbdcmehffmfpaaGreatDoor
namespace Go.Proofs.YtkbdcmehffmfpaaGreatDoor
set_option maxRecDepth 100000
open Go Go.Vm
variable {gl:Gl}
theorem r29:RowT Tryz.prog 29 3 1 8:=⟨by kernel_rfl,by kernel_rfl,by kernel_rfl,by decide,by kernel_rfl,by kernel_rfl,by kernel_rfl⟩
theorem tops_pre {p:Nat→Bool}:∀ i,tops (preL p i)=0
 | 0=>rfl
 | i+1=>by
  have h:∀ (xs ys:List V),tops xs=0→tops ys=0→tops (xs++ys)=0:=by
   intro xs ys h1 h2
   induction xs with
   | nil=>exact h2
   | cons x xs ih =>
    simp only [tops,List.cons_append,Nat.max_eq_zero_iff] at h1 ⊢
    exact ⟨h1.1,ih h1.2⟩
  refine h _ _ (tops_pre i) ?_
  unfold wordL
  induction bitsL (word p i) with
  | nil=>rfl
  | cons x xs ih=>simp only [List.map_cons,tops,V.top,ih];rfl
theorem top_own_pre {p:Nat→Bool} (i:Nat):(clr (ownL 1 3 (preL p i))).top=0:=by
 have h:=tops_pre (p:=p) i
 cases hL:preL p i with
 | nil=>rfl
 | cons x xs=>rw [hL] at h;simpa [ownL,clr,V.top] using h
theorem list_run (hg:GW gl) {n:Nat} (hn:70≤n) {H:Hp} {b off:Nat} {pre post:List V} {p:Nat→Bool} {ty:TypeId} (hb:H.get b=some (.cells (pre++pv 19 p++post) ty)) (ho:pre.length=off) :
  callA Tryz.prog gl (n+1) 21 [.ptr b off] H=some (.ret (clr (ownL 1 3 (preL p 19))),H):=by
 obtain ⟨bs,es⟩:=H
 have hb0:Hp.get ⟨bs,[]⟩ b=some (.cells (pre++pv 19 p++post) ty):=hb
 have hfin:finishH bs.length es 0 ⟨bs,[]⟩=⟨bs,es⟩:=by
  have:=finishH_clean (bs:=bs) (ls:=[]) (es:=es) (t:=0) (Nat.zero_le _)
  rwa [List.append_nil] at this
 generalize hL:preL p 19=L
 suffices hmain:(go ⟨Tryz.prog,gl,callA Tryz.prog gl n,uqw⟩ n (Fx Tryz.prog Tryz.f21.results.toList fun w H1=>w=clr (ownL 1 3 L)∧H1=⟨bs,[]⟩) [.c (Tryz.f21.body.getD .skip)] .normal ⟨[.ptr b off]++List.replicate 28 (.tup []),⟨bs,[]⟩,[],[]⟩) by
  obtain ⟨w,H1,h0,h1,h2⟩:=go_intro' (gl:=gl) (f:=21) (bs:=bs) (es:=es) (args:=[.ptr b off]) (n:=n) (hg.hk _ _ (by decide)) (fun H=>hg.hk2 _ _ _ _) Tryz.func21 rfl (by rw [hg.uq];exact hmain)
  rw [h0,h1,h2]
  have:(clr (ownL 1 3 L)).top=0:=by
   rw [← hL]
   exact top_own_pre 19
  rw [this]
  exact congrArg (fun x=>some (Out.ret _,x)) hfin
 simp only [Tryz.f21,Option.getD_some,go_seq]
 refine go_reg' (tk:=[]) (by kernel_rfl) ?_
 simp only [go_os,go_os_nil,go_seq,op_assign,take_const,ofVal,Option.map_some,tkQ_some,opQ_val,putA,List.set_cons_zero,List.set_cons_succ,List.replicate,List.cons_append,List.nil_append]
 refine go_reg' (tk:=[]) (by kernel_rfl) ?_
 simp only [go_os,go_os_nil,go_seq,op_assign,take_const,ofVal,Option.map_some,tkQ_some,opQ_val,putA,List.set_cons_zero,List.set_cons_succ]
 refine go_reg' (tk:=[]) (by kernel_rfl) ?_
 simp only [go_os,go_os_nil,go_block,op_move0,peek,ofVal,nth_cons0,rdQ_some,opQ_val,putA,List.set_cons_zero,List.set_cons_succ,clr_ptr]
 refine go_loop (fun m s=>∃ i env,m+i=19∧s=⟨env,⟨bs,[]⟩,[],[]⟩∧env.length=29∧nth env 3=some (ownL 1 3 (preL p i))∧nth env 6=some (.ptr b off)∧nth env 7=some (.int .i64 (i:Nat))) 19 (by omega) ⟨0,_,rfl,rfl,rfl,rfl,rfl,rfl⟩ ?_
 rintro m s ⟨i,env,hmi,rfl,hlen,h3,h6,h7⟩
 simp only [go_seq]
 refine go_reg' (tk:=[]) (by kernel_rfl) ?_
 simp only [go_os,go_os_nil,go_seq,go_cond',op_binOp,peek,ofVal,h7,rdQ_some,opQ_val,putA,nth_set,hlen,Nat.reduceLT,if_true,clr_int,clr_bool,bin_lss,condQ_b]
 by_cases hi:i<19
 ·refine .inl ⟨by simp;omega,?_⟩
  simp only [go_skip,go_seq,go_block]
  refine go_draw' (tk:=[]) (by kernel_rfl) (by kernel_rfl) ?_
  have hcell:nth (pre++pv 19 p++post) (off+i)=some (.int .u64 (word p i:Nat)):=by
   rw [nth_eq,← ho,get_mid pv_len hi,pv_get hi]
  have hld:loadA Tryz.prog ⟨bs,[]⟩ gl.g 39 (.ptr b (off+i))=some (.int .u64 (word p i:Nat)):=load_one agg39 hb0 hcell
  simp only [go_on,go_on_nil,go_block,ldChk,agg39,true_and,op_move0,op_nilCheck,op_indexAddr,op_load0,op_assign,take_tmp,peek,h6,h7,rdQ_some,opQ_val,putA,nth_set,List.length_set,hlen,Nat.reduceEqDiff,Nat.reduceLT,if_true,if_false,clr_ptr,clr_int,takeV_int,tkQ_some,Option.map_some,Option.bind_some,derefA,idxV,iaddr60 hi,hld]
  refine go_loop (fun m s=>∃ w acc env,(bitsL w).length=m∧w<2 ^ 64∧acc++((bitsL w).map fun j=>.int .i64 ((64 * i+j:Nat):Int))=preL p (i+1)∧s=⟨env,⟨bs,[]⟩,[],[]⟩∧env.length=29∧nth env 3=some (ownL 1 3 acc)∧nth env 4=some (.int .i64 (i:Nat))∧nth env 5=some (.int .u64 (w:Nat))∧nth env 6=some (.ptr b off)∧nth env 7=some (.int .i64 (i:Nat))) (bitsL (word p i)).length (by have:=bitsL_len (w:=word p i);omega) ⟨word p i,preL p i,_,rfl,word_lt,rfl,rfl,?_,?_,?_,?_,?_,?_⟩ ?_
  ·simp [hlen]
  ·simp [nth_set,h3]
  ·simp [nth_set,hlen]
  ·simp [nth_set,hlen]
  ·simp [nth_set,h6]
  ·simp [nth_set,h7]
  clear h3 h6 h7 hlen
  rintro m s ⟨w,acc,env,hm,hw,hacc,rfl,hlen,h3,h4,h5,h6,h7⟩
  simp only [go_seq]
  refine go_reg' (tk:=[]) (by kernel_rfl) ?_
  simp only [go_os,go_os_nil,go_cond',op_move0,op_binOp,peek,ofVal,h5,rdQ_some,opQ_val,putA,nth_set,List.length_set,hlen,Nat.reduceEqDiff,Nat.reduceLT,if_true,if_false,clr_int,clr_bool,bin_neq,condQ_b]
  by_cases hw0:w=0
  ·subst hw0
   rw [bitsL_zero,List.map_nil,List.append_nil] at hacc
   subst hacc
   refine .inr ⟨by decide,?_⟩
   simp only [go_exit,go_c_exit,go_nil,thn_exit,go_eb_exit,Nat.beq_refl,if_true,go_eb]
   refine go_reg' (tk:=[]) (by kernel_rfl) ?_
   simp only [go_os,go_os_nil,op_move0,op_binOp,peek,ofVal,h7,rdQ_some,opQ_val,putA,nth_set,List.length_set,hlen,Nat.reduceEqDiff,Nat.reduceLT,if_true,if_false,clr_int,bin_addk (show i<2 ^ 60 by omega),go_nil,thn_normal]
   refine ⟨18 - i,by omega,i+1,_,by omega,rfl,?_,?_,?_,?_⟩
   ·simp [hlen]
   ·simp [nth_set,h3]
   ·simp [nth_set,h6]
   ·simp [nth_set,hlen]
  ·refine .inl ⟨by simp;omega,?_⟩
   obtain ⟨k,mm,hwk⟩:=low_form w hw0
   have htz:=fun (H:Hp)=>tz_run hg (n:=n - 1) (H:=H) (k:=k) (m:=mm) (by rw [← hwk];exact hw)
   rw [← hwk,show n - 1+1=n by omega] at htz
   simp only [go_skip,go_seq,go_block]
   refine go_reg' (tk:=[19]) (by kernel_rfl) ?_
   have hcall:Cx.callF ⟨Tryz.prog,gl.g,callA Tryz.prog gl n,uqw⟩ 39 [.int .u64 (w:Nat)] ⟨bs,[]⟩=some (.val (.int .i64 (k:Nat)),⟨bs,[]⟩):=callF_run Tryz.func39 rfl (htz _)
   have hk:k<64:=low_lt (by rw [← hwk];exact hw)
   have haccl:acc.length+1≤64 * (i+1):=by
    have h1:=congrArg List.length hacc
    have h2:=preL_len (p:=p) (i+1)
    have h3:(bitsL w).length≠0:=by
     rw [hwk,bitsL_low (by rw [← hwk];exact hw)];simp
    simp only [List.length_append,List.length_map] at h1
    omega
   have happ:=append_own r29 (H:=⟨bs,[]⟩) (xs:=acc) (ys:=[V.int .i64 ((64 * i+k:Nat):Int)]) (o:=.no) (by simp) (roomA_of (by simp;omega) (by simp;omega))
   have hbs:=r29.bsl (v:=.int .i64 ((64 * i+k:Nat):Int)) rfl rfl
   have hmul:∀ (u v:Operand),binV Tryz.prog .mul 3 u v (some (.int .i64 64)) (some (.int .i64 (i:Nat)))=some (.int .i64 ((64 * i:Nat):Int)):=fun u v=>bin_mulI (a:=64) (by omega)
   have hne3:nth (((env.set 13 (V.int .u64 (w:Nat))).set 14 (V.bool ((w:Int) != 0)))) 3=some (ownL 1 3 acc):=by simp [nth_set,h3]
   simp only [go_os,op_move1,op_move1t,take_own hne3,op_binOp,op_call,peeks,fV_eq,ne_eq,not_false_eq_true,op_bsl1,op_append (cx:=⟨Tryz.prog,gl.g,callA Tryz.prog gl n,uqw⟩) (show uqT Tryz.prog uqw 29=false by kernel_rfl),peek,ofVal,h4,h5,rdQ_some,tkQ_some,opQ_val,putA,nth_set,List.length_set,hlen,Nat.reduceEqDiff,Nat.reduceLT,if_true,if_false,clr_int,clr_sl,callG_some,List.map_cons,List.map_nil,callQ,hcall,hmul,bin_addI (show 64 * i+k<2 ^ 60 by omega),hbs]
   rw [take_own (n:=1) (e:=3) (xs:=acc) (by simp [nth_set,hlen])]
   simp only [appQ,Option.bind_some,happ,opQ_val,putA,go_os,go_os_nil,go_eb,op_assign]
   rw [take_own (n:=1) (e:=3) (xs:=acc++[V.int .i64 ((64 * i+k:Nat):Int)]) (by simp [nth_set,hlen])]
   simp only [tkQ_some,opQ_val,putA]
   refine go_reg' (tk:=[]) (by kernel_rfl) ?_
   have hw1:w - 1<2 ^ 64:=by omega
   simp only [go_os,go_os_nil,op_move0,op_binOp,op_assign,take_tmp,peek,ofVal,h5,rdQ_some,tkQ_some,opQ_val,putA,nth_set,List.length_set,hlen,Nat.reduceEqDiff,Nat.reduceLT,if_true,if_false,clr_int,takeV_int,bin_dec64 hw0 hw,bin_and64 hw hw1,go_nil,thn_normal]
   have hbl:bitsL w=k::bitsL (w &&& (w - 1)):=by
    rw [hwk];exact bitsL_low (by rw [← hwk];exact hw)
   refine ⟨(bitsL (w &&& (w - 1))).length,by rw [← hm,hbl];simp,w &&& (w - 1),acc++[V.int .i64 ((64 * i+k:Nat):Int)],_,rfl,Nat.lt_of_le_of_lt Nat.and_le_left hw,?_,rfl,?_,?_,?_,?_,?_,?_⟩
   ·rw [← hacc,hbl];simp
   ·simp [hlen]
   ·simp [nth_set,hlen]
   ·simp [nth_set,h4]
   ·simp [nth_set,hlen]
   ·simp [nth_set,h6]
   ·simp [nth_set,h7]
 ·obtain rfl:i=19:=by omega
  refine .inr ⟨by decide,?_⟩
  rw [hL] at h3
  simp only [go_exit,go_c_exit,go_nil,thn_exit,go_eb_exit,Nat.beq_refl,if_true,go_seq]
  refine go_reg' (tk:=[]) (by kernel_rfl) ?_
  have hcc:clr (clr (ownL 1 3 L))=clr (ownL 1 3 L):=by cases L<;>rfl
  have htk:∀ e:List V,nth e 28=some (clr (ownL 1 3 L))→take e (.tmp 28)=some (clr (ownL 1 3 L),e):=fun e he=>by
   rw [take_tmp,he];cases L<;>rfl
  simp only [go_os,go_os_nil,op_move0,op_assign,peek,h3,rdQ_some,opQ_val,putA,nth_set,hlen,Nat.reduceEqDiff,Nat.reduceLT,if_true,if_false]
  rw [htk _ (by simp [nth_set,hlen])]
  simp only [tkQ_some,opQ_val,putA,go_ret,go_nil,Fx]
  refine ⟨trivial,[clr (ownL 1 3 L)],?_,rfl,trivial⟩
  simp [resultsA,nth_set,hlen]
end Go.Proofs.YtkbdcmehffmfpaaGreatDoor
namespace Go.Proofs.YtkbdcmehffmfpaaGreatDoor
set_option maxRecDepth 100000
open Go Go.Vm
variable {gl:Gl}
theorem join_run (hg:GW gl) {n:Nat} (hn:20≤n) {bs:List Blk} {es:List (Nat×Nat)} {b off b' off':Nat} {pre post pre' post':List V} {p q:Nat→Bool} {ty ty':TypeId} (hb:nth bs b=some (.cells (pre++pv 19 p++post) ty)) (ho:pre.length=off) (hb':nth bs b'=some (.cells (pre'++pv 19 q++post') ty')) (ho':pre'.length=off') (hne:b'≠b) :
  callA Tryz.prog gl (n+1) 20 [.ptr b off,.ptr b' off'] ⟨bs,es⟩=some (.ret (.tup []),⟨bs.set b (.cells (pre++pv 19 (joinP p q)++post) ty),es⟩):=by
 have hfin:finishH bs.length es 0 ⟨bs.set b (.cells (pre++pv 19 (joinP p q)++post) ty),[]⟩=⟨bs.set b (.cells (pre++pv 19 (joinP p q)++post) ty),es⟩:=by
  have:=finishH_clean (bs:=bs.set b (.cells (pre++pv 19 (joinP p q)++post) ty)) (ls:=[]) (es:=es) (t:=0) (Nat.zero_le _)
  rwa [List.append_nil,List.length_set] at this
 suffices hmain:(go ⟨Tryz.prog,gl,callA Tryz.prog gl n,uqw⟩ n (Fx Tryz.prog Tryz.f20.results.toList fun w H1=>w=.tup []∧H1=⟨bs.set b (.cells (pre++pv 19 (joinP p q)++post) ty),[]⟩) [.c (Tryz.f20.body.getD .skip)] .normal ⟨[.ptr b off,.ptr b' off']++List.replicate 20 (.tup []),⟨bs,[]⟩,[],[]⟩) by
  obtain ⟨w,H1,h0,rfl,rfl⟩:=go_intro' (gl:=gl) (f:=20) (bs:=bs) (es:=es) (args:=[.ptr b off,.ptr b' off']) (n:=n) (hg.hk _ _ (by decide)) (fun H=>hg.hk2 _ _ _ _) Tryz.func20 rfl (by rw [hg.uq];exact hmain)
  rw [h0,show (V.tup []).top=0 from rfl,hfin]
 simp only [Tryz.f20,Option.getD_some,go_seq]
 refine go_reg' (tk:=[]) (by kernel_rfl) ?_
 simp only [go_os,go_os_nil,go_block,op_move0,peek,ofVal,rdQ_some,opQ_val,putA,List.set_cons_zero,List.set_cons_succ,List.replicate,List.cons_append,List.nil_append]
 let Hi:Nat→Hp:=fun i=>⟨bs.set b (.cells (pre++pv 19 (mixP p q i)++post) ty),[]⟩
 refine go_loop (fun m s=>∃ i env,m+i=19∧s=⟨env,Hi i,[],[]⟩∧env.length=22∧nth env 0=some (.ptr b off)∧nth env 1=some (.ptr b' off')∧nth env 5=some (.int .i64 (i:Nat))) 19 (by omega) ?_ ?_
 ·have hs0:Hi 0=⟨bs,[]⟩:=by
   simp only [Hi,mix_zero]
   rw [show bs.set b (.cells (pre++pv 19 p++post) ty)=bs from set_same' hb]
  refine ⟨0,_,rfl,by rw [hs0],?_,?_,?_,?_⟩<;>rfl
 rintro m s ⟨i,env,hmi,rfl,hlen,h0,h1,h5⟩
 simp only [go_seq]
 refine go_reg' (tk:=[]) (by kernel_rfl) ?_
 simp only [go_os,go_os_nil,go_seq,go_cond',op_binOp,peek,ofVal,h5,rdQ_some,opQ_val,putA,nth_set,hlen,Nat.reduceLT,if_true,clr_int,clr_bool,bin_lss,condQ_b]
 have hcong:∀ r:List V,nth (bs.set b (.cells r ty)) b=some (.cells r ty):=fun r=>by
  have hlt:b<bs.length:=by rw [nth_eq] at hb;exact (List.getElem?_eq_some_iff.1 hb).1
  rw [nth_eq,List.getElem?_set,if_pos rfl,if_pos hlt]
 by_cases hi:i<19
 ·refine .inl ⟨by simp;omega,?_⟩
  simp only [go_skip,go_seq,go_block]
  refine go_reg' (tk:=[]) (by kernel_rfl) ?_
  simp only [go_os,go_os_nil,op_move0,op_assign,take_tmp,peek,h5,rdQ_some,opQ_val,putA,nth_set,List.length_set,hlen,Nat.reduceEqDiff,Nat.reduceLT,if_true,if_false,clr_int,takeV_int,tkQ_some]
  refine go_draw' (tk:=[]) (by kernel_rfl) (by kernel_rfl) ?_
  have hgb:(Hi i).get b=some (.cells (pre++pv 19 (mixP p q i)++post) ty):=hcong _
  have hgb':(Hi i).get b'=some (.cells (pre'++pv 19 q++post') ty'):=by
   show nth (bs.set b _) b'=_
   rw [nth_eq,List.getElem?_set,if_neg (Ne.symm hne),← nth_eq,hb']
  have hcell:nth (pre++pv 19 (mixP p q i)++post) (off+i)=some (.int .u64 (word p i:Nat)):=by
   rw [nth_eq,← ho,get_mid pv_len hi,pv_get hi,word_mix]
  have hcell':nth (pre'++pv 19 q++post') (off'+i)=some (.int .u64 (word q i:Nat)):=by
   rw [nth_eq,← ho',get_mid pv_len hi,pv_get hi]
  have hld:loadA Tryz.prog (Hi i) gl.g 39 (.ptr b (off+i))=some (.int .u64 (word p i:Nat)):=load_one agg39 hgb hcell
  have hld':loadA Tryz.prog (Hi i) gl.g 39 (.ptr b' (off'+i))=some (.int .u64 (word q i:Nat)):=load_one agg39 hgb' hcell'
  have hmay:mayA [] b (off+i) 1 ((pre++pv 19 (mixP p q i)++post).drop (off+i))=true:=mayA_drop fun k h=>by
   obtain rfl:k=0:=by omega
   exact ⟨_,by rw [Nat.add_zero,← nth_eq,hcell],rfl⟩
  simp only [go_on,go_on_nil,ldChk,agg39,true_and,op_move0,op_nilCheck,op_indexAddr,op_load0,op_binOp,op_store_x,take_tmp,peek,h0,h1,rdQ_some,opQ_val,putA,nth_set,List.length_set,hlen,Nat.reduceEqDiff,Nat.reduceLT,if_true,if_false,clr_ptr,clr_int,takeV_int,Option.map_some,Option.bind_some,derefA,idxV,iaddr60 hi,hld,hld',bin_or64 word_lt word_lt]
  rw [storX_ptr sz39 hgb rfl rfl (by simp [pv_len,← ho];omega) hmay]
  simp only [opQ_skip,go_eb,putA,V.laid,Vm.storeCells]
  rw [edge0 (by simp [V.top])]
  have hH:(Hi i).set b (.cells ((pre++pv 19 (mixP p q i)++post).set (off+i) (.int .u64 ((word p i ||| word q i:Nat):Int))) ty)=Hi (i+1):=by
   rw [← ho,set_mid pv_len hi,mix_step]
   simp only [Hi,Hp.set,List.set_set]
  rw [hH]
  refine go_reg' (tk:=[]) (by kernel_rfl) ?_
  simp only [go_os,go_os_nil,op_binOp,op_move0,peek,ofVal,h5,rdQ_some,opQ_val,putA,nth_set,List.length_set,hlen,Nat.reduceEqDiff,Nat.reduceLT,if_true,if_false,clr_int,bin_addk (show i<2 ^ 60 by omega),go_nil,thn_normal]
  refine ⟨18 - i,by omega,i+1,_,by omega,rfl,?_,?_,?_,?_⟩<;>simp [nth_set,hlen,h0,h1]
 ·obtain rfl:i=19:=by omega
  refine .inr ⟨by decide,?_⟩
  simp only [go_exit,go_c_exit,go_nil,thn_exit,go_eb_exit,Nat.beq_refl,if_true,Fx]
  refine ⟨trivial,[],rfl,rfl,?_⟩
  simp only [Hi,mix_end]
theorem iaddr60u {b v off i:Nat} (h:i<19):indexAddrA Tryz.prog 60 (.ulp b v off) i=some (.ulp b v (off+i)):=by
 simp only [indexAddrA,u60,sz39]
 simp;omega
theorem join_ulp (hg:GW gl) {n:Nat} (hn:20≤n) {bs:List Blk} {es:List (Nat×Nat)} {b off b' off':Nat} {pre post pre' post':List V} {p q:Nat→Bool} {v:Nat} {ty':TypeId} (hb:nth bs b=some (.ul v 19 (pre++pv 19 p++post) 60)) (ho:pre.length=off) (hb':nth bs b'=some (.cells (pre'++pv 19 q++post') ty')) (ho':pre'.length=off') (hne:b'≠b) :
  callA Tryz.prog gl (n+1) 20 [.ulp b v off,.ptr b' off'] ⟨bs,es⟩=some (.ret (.tup []),⟨bs.set b (.ul v 19 (pre++pv 19 (joinP p q)++post) 60),es⟩):=by
 have hfin:finishH bs.length es 0 ⟨bs.set b (.ul v 19 (pre++pv 19 (joinP p q)++post) 60),[]⟩=⟨bs.set b (.ul v 19 (pre++pv 19 (joinP p q)++post) 60),es⟩:=by
  have:=finishH_clean (bs:=bs.set b (.ul v 19 (pre++pv 19 (joinP p q)++post) 60)) (ls:=[]) (es:=es) (t:=0) (Nat.zero_le _)
  rwa [List.append_nil,List.length_set] at this
 suffices hmain:(go ⟨Tryz.prog,gl,callA Tryz.prog gl n,uqw⟩ n (Fx Tryz.prog Tryz.f20.results.toList fun w H1=>w=.tup []∧H1=⟨bs.set b (.ul v 19 (pre++pv 19 (joinP p q)++post) 60),[]⟩) [.c (Tryz.f20.body.getD .skip)] .normal ⟨[.ulp b v off,.ptr b' off']++List.replicate 20 (.tup []),⟨bs,[]⟩,[],[]⟩) by
  obtain ⟨w,H1,h0,rfl,rfl⟩:=go_intro' (gl:=gl) (f:=20) (bs:=bs) (es:=es) (args:=[.ulp b v off,.ptr b' off']) (n:=n) (hg.hk _ _ (by decide)) (fun H=>hg.hk2 _ _ _ _) Tryz.func20 rfl (by rw [hg.uq];exact hmain)
  rw [h0,show (V.tup []).top=0 from rfl,hfin]
 simp only [Tryz.f20,Option.getD_some,go_seq]
 refine go_reg' (tk:=[]) (by kernel_rfl) ?_
 simp only [go_os,go_os_nil,go_block,op_move0,peek,ofVal,rdQ_some,opQ_val,putA,List.set_cons_zero,List.set_cons_succ,List.replicate,List.cons_append,List.nil_append]
 let Hi:Nat→Hp:=fun i=>⟨bs.set b (.ul v 19 (pre++pv 19 (mixP p q i)++post) 60),[]⟩
 refine go_loop (fun m s=>∃ i env,m+i=19∧s=⟨env,Hi i,[],[]⟩∧env.length=22∧nth env 0=some (.ulp b v off)∧nth env 1=some (.ptr b' off')∧nth env 5=some (.int .i64 (i:Nat))) 19 (by omega) ?_ ?_
 ·have hs0:Hi 0=⟨bs,[]⟩:=by
   simp only [Hi,mix_zero]
   rw [show bs.set b (.ul v 19 (pre++pv 19 p++post) 60)=bs from set_same' hb]
  refine ⟨0,_,rfl,by rw [hs0],?_,?_,?_,?_⟩<;>rfl
 rintro m s ⟨i,env,hmi,rfl,hlen,h0,h1,h5⟩
 simp only [go_seq]
 refine go_reg' (tk:=[]) (by kernel_rfl) ?_
 simp only [go_os,go_os_nil,go_seq,go_cond',op_binOp,peek,ofVal,h5,rdQ_some,opQ_val,putA,nth_set,hlen,Nat.reduceLT,if_true,clr_int,clr_bool,bin_lss,condQ_b]
 have hcong:∀ r:List V,nth (bs.set b (.ul v 19 r 60)) b=some (.ul v 19 r 60):=fun r=>by
  have hlt:b<bs.length:=by rw [nth_eq] at hb;exact (List.getElem?_eq_some_iff.1 hb).1
  rw [nth_eq,List.getElem?_set,if_pos rfl,if_pos hlt]
 by_cases hi:i<19
 ·refine .inl ⟨by simp;omega,?_⟩
  simp only [go_skip,go_seq,go_block]
  refine go_reg' (tk:=[]) (by kernel_rfl) ?_
  simp only [go_os,go_os_nil,op_move0,op_assign,take_tmp,peek,h5,rdQ_some,opQ_val,putA,nth_set,List.length_set,hlen,Nat.reduceEqDiff,Nat.reduceLT,if_true,if_false,clr_int,takeV_int,tkQ_some]
  refine go_draw' (tk:=[]) (by kernel_rfl) (by kernel_rfl) ?_
  have hgb:(Hi i).get b=some (.ul v 19 (pre++pv 19 (mixP p q i)++post) 60):=hcong _
  have hgb':(Hi i).get b'=some (.cells (pre'++pv 19 q++post') ty'):=by
   show nth (bs.set b _) b'=_
   rw [nth_eq,List.getElem?_set,if_neg (Ne.symm hne),← nth_eq,hb']
  have hcell:nth (pre++pv 19 (mixP p q i)++post) (off+i)=some (.int .u64 (word p i:Nat)):=by
   rw [nth_eq,← ho,get_mid pv_len hi,pv_get hi,word_mix]
  have hcell':nth (pre'++pv 19 q++post') (off'+i)=some (.int .u64 (word q i:Nat)):=by
   rw [nth_eq,← ho',get_mid pv_len hi,pv_get hi]
  have hld:loadA Tryz.prog (Hi i) gl.g 39 (.ulp b v (off+i))=some (.int .u64 (word p i:Nat)):=load_ulp1 agg39 hgb hcell
  have hld':loadA Tryz.prog (Hi i) gl.g 39 (.ptr b' (off'+i))=some (.int .u64 (word q i:Nat)):=load_one agg39 hgb' hcell'
  simp only [go_on,go_on_nil,ldChk,agg39,true_and,op_move0,op_nilCheck,op_indexAddr,op_load0,op_binOp,op_store_x,take_tmp,peek,h0,h1,rdQ_some,opQ_val,putA,nth_set,List.length_set,hlen,Nat.reduceEqDiff,Nat.reduceLT,if_true,if_false,clr_ptr,clr_ulp,clr_int,takeV_int,Option.map_some,Option.bind_some,derefA,idxV,iaddr60 hi,iaddr60u hi,hld,hld',bin_or64 word_lt word_lt]
  rw [storX_ulp sz39 hgb rfl rfl rfl (by simp [pv_len,← ho];omega)]
  simp only [opQ_skip,go_eb,putA,V.cells,Vm.storeCells]
  rw [edge0 (by simp [V.top])]
  have hH:(Hi i).set b (.ul v 19 ((pre++pv 19 (mixP p q i)++post).set (off+i) (.int .u64 ((word p i ||| word q i:Nat):Int))) 60)=Hi (i+1):=by
   rw [← ho,set_mid pv_len hi,mix_step]
   simp only [Hi,Hp.set,List.set_set]
  rw [hH]
  refine go_reg' (tk:=[]) (by kernel_rfl) ?_
  simp only [go_os,go_os_nil,op_binOp,op_move0,peek,ofVal,h5,rdQ_some,opQ_val,putA,nth_set,List.length_set,hlen,Nat.reduceEqDiff,Nat.reduceLT,if_true,if_false,clr_int,bin_addk (show i<2 ^ 60 by omega),go_nil,thn_normal]
  refine ⟨18 - i,by omega,i+1,_,by omega,rfl,?_,?_,?_,?_⟩<;>simp [nth_set,hlen,h0,h1]
 ·obtain rfl:i=19:=by omega
  refine .inr ⟨by decide,?_⟩
  simp only [go_exit,go_c_exit,go_nil,thn_exit,go_eb_exit,Nat.beq_refl,if_true,Fx]
  refine ⟨trivial,[],rfl,rfl,?_⟩
  simp only [Hi,mix_end]
end Go.Proofs.YtkbdcmehffmfpaaGreatDoor
namespace Go.Proofs.YtkbdcmehffmfpaaGreatDoor
set_option maxRecDepth 100000
open Go Go.Vm
variable {gl:Gl}
theorem r84:RowT Tryz.prog 84 92 11 112:=⟨by kernel_rfl,by kernel_rfl,by kernel_rfl,by decide,by kernel_rfl,by kernel_rfl,by kernel_rfl⟩
theorem fo86:fieldOff Tryz.prog 86 0=some 0:=by kernel_rfl
theorem ag84:aggT Tryz.prog 84=some false:=by kernel_rfl
theorem ag92:aggT Tryz.prog 92=some true:=by kernel_rfl
theorem sz92:szOf Tryz.prog 92=some 11:=by kernel_rfl
theorem push92 (hg:GW gl) {n:Nat} {H:Hp} {b:Nat} {c:V} {ty:TypeId} {i:Option Nat} {xs:List (List V)} {x:List V} (hb:H.get b=some (.cells [c] ty)) (hu:UL H 11 92 c i xs) (hib:i≠some b) (hx:x.length=11) (hxc:x.map clr=x) (hroom:roomA (xs.length+1) 112=true) :
  ∃ H' c' j,callA Tryz.prog gl (n+1) 31 [.ptr b 0,.agg x] H=some (.ret (.tup []),H')∧H'.get b=some (.cells [c'] ty)∧UL H' 11 92 c' (some j) (xs++[x])∧j≠b∧(i=some j∨H.blks.length≤j)∧Frm H H' (fun d=>d=b∨i=some d):=by
 obtain ⟨bs,es⟩:=H
 have hlt:b<bs.length:=get_lt hb
 have hb0:Hp.get ⟨bs,[]⟩ b=some (.cells [c] ty):=hb
 have hu0:UL ⟨bs,[]⟩ 11 92 c i xs:=hu
 have hct:c.top≤bs.length∧(c=.snil∨∃ j v l,c=.ulr j v l):=by
  cases i with
  | none=>obtain ⟨rfl,_⟩:=hu;exact ⟨Nat.zero_le _,.inl rfl⟩
  | some j=>obtain ⟨v,rfl,hj⟩:=hu;exact ⟨get_lt hj,.inr ⟨_,_,_,rfl⟩⟩
 suffices hmain:(go ⟨Tryz.prog,gl,callA Tryz.prog gl n,uqw⟩ n (Fx Tryz.prog [] fun v H1=>v=.tup []∧∃ c' j,(∀ d,d<bs.length→d≠b→i≠some d→H1.get d=Hp.get ⟨bs,es⟩ d)∧H1.get b=some (.cells [c'] ty)∧UL H1 11 92 c' (some j) (xs++[x])∧j≠b∧(i=some j∨bs.length≤j∧(b,j+1)∈H1.edges)∧bs.length≤H1.blks.length) [.c (Tryz.f31.body.getD .skip)] .normal ⟨[.ptr b 0,.agg x]++List.replicate 12 (.tup []),⟨bs,[]⟩,[],[]⟩) by
  obtain ⟨v,H1,h0,rfl,c',j,h2,h3,h4,h5,h6,h7⟩:=go_intro' (gl:=gl) (f:=31) (bs:=bs) (es:=es) (args:=[.ptr b 0,.agg x]) (n:=n) (hg.hk _ _ (by decide)) (fun H=>hg.hk2 _ _ _ _) Tryz.func31 rfl (by rw [hg.uq];exact hmain)
  have hj:(finishH bs.length es 0 H1).get j=H1.get j:=by
   rcases h6 with rfl|⟨h6,h8⟩
   ·exact finishH_get (hu.lt)
   ·exact finishH_keep h8 hlt (by omega) _
  exact ⟨_,c',j,h0,(finishH_get hlt).trans h3,h4.frame fun k hk=>by cases hk;exact hj,h5,h6.imp id And.left,finishH_len h7,fun d hd hn=>(finishH_get hd).trans (h2 d hd (fun e=>hn (.inl e)) (fun e=>hn (.inr e)))⟩
 have hbox:okC (.agg x)=true:=rfl
 have hld:loadA Tryz.prog (Hp.push ⟨bs,[]⟩ (.cells x 92)) gl.g 92 (.ptr bs.length 0)=some (.agg x):=by
  rw [load_agg ag92 sz92 get_new' (by simp [hx])]
  simp [← hx]
 have hbsl:=r84.bsl (v:=.agg x) rfl hx
 have hu1:UL (Hp.push ⟨bs,[]⟩ (.cells x 92)) 11 92 c i xs:=hu0.frame fun j hj=>by
  subst hj
  obtain ⟨v,_,h⟩:=hu0
  rw [h];exact get_push_some h
 have happ:=r84.app (env:=[.ptr b 0,.agg x,.tup [],.ptr bs.length 0,.ptr b 0,.ptr b 0,.ptr b 0,.ptr b (0+0),c,.agg x,.sl 11 [.agg x] (.yes 92),.tup [],.tup [],.tup []]) (H:=Hp.push ⟨bs,[]⟩ (.cells x 92)) (lk:=[]) (df:=[]) (ys:=[.agg x]) (o:=.no) (by simp) hu1 hroom
 simp only [Tryz.f31,Option.getD_some,go_seq]
 refine go_reg' (tk:=[]) (by kernel_rfl) ?_
 simp only [go_os,go_os_nil,op_box,take_tmp,takeV_agg,nth_cons0,nth_cons,boxQ_some hbox,opQ_val,putA,List.set_cons_zero,List.set_cons_succ,List.replicate,List.cons_append,List.nil_append,V.laid,hxc]
 refine go_draw' (tk:=[8]) (by kernel_rfl) (by kernel_rfl) ?_
 simp only [go_on,ldChk,true_and,ag84,op_move1,op_loadt1,ne_eq,Nat.reduceEqDiff,not_false_eq_true,op_nilCheck,op_fieldAddr2,peek,nth_cons0,nth_cons,rdQ_some,opQ_val,putA,List.set_cons_zero,List.set_cons_succ,clr_ptr,Option.bind_some,derefA,fo86,faddrO_some,faddrV]
 rw [lodT_ul (c:=c) ag84 (get_push_some hb0) rfl hct.2]
 simp only [opQ_val,putA,List.set_cons_zero,List.set_cons_succ,go_on,ldChk,true_and,ag92,op_load1,ne_eq,Nat.reduceEqDiff,not_false_eq_true,peek,nth_cons0,nth_cons,clr_ptr,List.all_nil,Option.bind_some,
  hld,Option.map_some,rdQ_some,clr_agg,clr_sl,op_bsl1,hbsl,op_append_u (cx:=⟨Tryz.prog,gl.g,callA Tryz.prog gl n,uqw⟩) (show uqT Tryz.prog uqw 84=true by kernel_rfl)]
 cases i with
 | none =>
  obtain ⟨rfl,rfl⟩:=hu
  simp only [clr_snil]
  rw [happ]
  simp only [opQ_val,putA,List.set_cons_zero,List.set_cons_succ,go_on,go_on_nil,ldChk,true_and,op_nilCheck,op_fieldAddr2,op_store_x,take_tmp,peek,nth_cons0,nth_cons,rdQ_some,clr_ptr,Option.bind_some,derefA,fo86,faddrO_some,faddrV,takeV_ulr,Nat.add_zero]
  rw [storX_ptr (cs:=[.snil]) (ty:=ty) r84.st (get_push_some (get_push_some hb0)) rfl rfl (by simp) (by simp [mayA,locked])]
  simp only [opQ_skip,putA,go_nil,Fx,Vm.storeCells,V.laid,len_push,List.set_cons_zero]
  refine ⟨trivial,[],rfl,rfl,.ulr (bs.length+1) 0 1,bs.length+1,?_,?_,?_,by omega,.inr ⟨by omega,?_⟩,?_⟩
  ·intro d hd hdb _
   rw [get_edge,get_set,get_push,get_push]
   cases hg:Hp.get ⟨bs,[]⟩ d with
   | none=>exact absurd hg (by simp [Hp.get,nth_eq,hd])
   | some y=>simp only [if_neg hdb];exact hg.symm
  ·rw [get_edge,get_set,get_push_some (get_push_some hb0)];simp
  ·refine ⟨0,rfl,?_⟩
   rw [get_edge,get_set]
   have:Hp.get (Hp.push (Hp.push ⟨bs,[]⟩ (.cells x 92)) (.ul 0 11 (flatV [.agg x]) 92)) (bs.length+1)=some (.ul 0 11 (flatV [.agg x]) 92):=by
    rw [get_push,get_ge (by simp [Hp.push])];simp [Hp.push]
   rw [this]
   have hne:bs.length+1≠b:=by omega
   simp [hne,flatV,V.cells]
  ·exact edge_mem (v:=.ulr (bs.length+1) 0 1) (by simp [V.top];omega)
  ·rw [len_edge,len_set,len_push,len_push];show bs.length≤bs.length+1+1;omega
 | some j =>
  obtain ⟨v,rfl,hj⟩:=hu0
  have hjb:j≠b:=fun e=>hib (by rw [e])
  have hjl:j<bs.length:=get_lt hj
  simp only [clr_ulr] at happ ⊢
  rw [happ]
  simp only [opQ_val,putA,List.set_cons_zero,List.set_cons_succ,go_on,go_on_nil,ldChk,true_and,op_nilCheck,op_fieldAddr2,op_store_x,take_tmp,peek,nth_cons0,nth_cons,rdQ_some,clr_ptr,Option.bind_some,derefA,fo86,faddrO_some,faddrV,takeV_ulr,Nat.add_zero]
  have hb2:∀ y,(((Hp.push ⟨bs,[]⟩ (.cells x 92)).set j y).edge j (.tup [.agg x])).get b=some (.cells [.ulr j v xs.length] ty):=fun y=>by
   rw [get_edge,get_set,get_push_some hb0];simp [Ne.symm hjb]
  rw [storX_ptr (cs:=[.ulr j v xs.length]) (ty:=ty) r84.st (hb2 _) rfl rfl (by simp) (by simp [mayA,locked])]
  simp only [opQ_skip,putA,go_nil,Fx,Vm.storeCells,V.laid,List.set_cons_zero]
  refine ⟨trivial,[],rfl,rfl,.ulr j (v+1) (xs.length+1),j,?_,?_,?_,hjb,.inl rfl,?_⟩
  ·intro d hd hdb hdj
   have hdj':d≠j:=fun e=>hdj (by rw [e])
   rw [get_edge,get_set,get_edge,get_set,get_push]
   cases hg:Hp.get ⟨bs,[]⟩ d with
   | none=>exact absurd hg (by simp [Hp.get,nth_eq,hd])
   | some y=>simp only [if_neg hdb,if_neg hdj'];exact hg.symm
  ·rw [get_edge,get_set,hb2];simp
  ·refine ⟨v+1,by simp,?_⟩
   rw [get_edge,get_set,get_edge,get_set,get_push_some hj]
   simp [hjb,flatV,V.cells]
  ·simp [len_edge,len_set,len_push]
theorem r87:RowT Tryz.prog 87 62 39 312:=⟨by kernel_rfl,by kernel_rfl,by kernel_rfl,by decide,by kernel_rfl,by kernel_rfl,by kernel_rfl⟩
theorem fo89:fieldOff Tryz.prog 89 0=some 0:=by kernel_rfl
theorem ag87:aggT Tryz.prog 87=some false:=by kernel_rfl
theorem ag62:aggT Tryz.prog 62=some true:=by kernel_rfl
theorem sz62:szOf Tryz.prog 62=some 39:=by kernel_rfl
theorem push62 (hg:GW gl) {n:Nat} {H:Hp} {b:Nat} {c:V} {ty:TypeId} {i:Option Nat} {xs:List (List V)} {x:List V} (hb:H.get b=some (.cells [c] ty)) (hu:UL H 39 62 c i xs) (hib:i≠some b) (hx:x.length=39) (hxc:x.map clr=x) (hroom:roomA (xs.length+1) 312=true) :
  ∃ H' c' j,callA Tryz.prog gl (n+1) 34 [.ptr b 0,.agg x] H=some (.ret (.tup []),H')∧H'.get b=some (.cells [c'] ty)∧UL H' 39 62 c' (some j) (xs++[x])∧j≠b∧(i=some j∨H.blks.length≤j)∧Frm H H' (fun d=>d=b∨i=some d):=by
 obtain ⟨bs,es⟩:=H
 have hlt:b<bs.length:=get_lt hb
 have hb0:Hp.get ⟨bs,[]⟩ b=some (.cells [c] ty):=hb
 have hu0:UL ⟨bs,[]⟩ 39 62 c i xs:=hu
 have hct:c.top≤bs.length∧(c=.snil∨∃ j v l,c=.ulr j v l):=by
  cases i with
  | none=>obtain ⟨rfl,_⟩:=hu;exact ⟨Nat.zero_le _,.inl rfl⟩
  | some j=>obtain ⟨v,rfl,hj⟩:=hu;exact ⟨get_lt hj,.inr ⟨_,_,_,rfl⟩⟩
 suffices hmain:(go ⟨Tryz.prog,gl,callA Tryz.prog gl n,uqw⟩ n (Fx Tryz.prog [] fun v H1=>v=.tup []∧∃ c' j,(∀ d,d<bs.length→d≠b→i≠some d→H1.get d=Hp.get ⟨bs,es⟩ d)∧H1.get b=some (.cells [c'] ty)∧UL H1 39 62 c' (some j) (xs++[x])∧j≠b∧(i=some j∨bs.length≤j∧(b,j+1)∈H1.edges)∧bs.length≤H1.blks.length) [.c (Tryz.f34.body.getD .skip)] .normal ⟨[.ptr b 0,.agg x]++List.replicate 12 (.tup []),⟨bs,[]⟩,[],[]⟩) by
  obtain ⟨v,H1,h0,rfl,c',j,h2,h3,h4,h5,h6,h7⟩:=go_intro' (gl:=gl) (f:=34) (bs:=bs) (es:=es) (args:=[.ptr b 0,.agg x]) (n:=n) (hg.hk _ _ (by decide)) (fun H=>hg.hk2 _ _ _ _) Tryz.func34 rfl (by rw [hg.uq];exact hmain)
  have hj:(finishH bs.length es 0 H1).get j=H1.get j:=by
   rcases h6 with rfl|⟨h6,h8⟩
   ·exact finishH_get (hu.lt)
   ·exact finishH_keep h8 hlt (by omega) _
  exact ⟨_,c',j,h0,(finishH_get hlt).trans h3,h4.frame fun k hk=>by cases hk;exact hj,h5,h6.imp id And.left,finishH_len h7,fun d hd hn=>(finishH_get hd).trans (h2 d hd (fun e=>hn (.inl e)) (fun e=>hn (.inr e)))⟩
 have hbox:okC (.agg x)=true:=rfl
 have hld:loadA Tryz.prog (Hp.push ⟨bs,[]⟩ (.cells x 62)) gl.g 62 (.ptr bs.length 0)=some (.agg x):=by
  rw [load_agg ag62 sz62 get_new' (by simp [hx])]
  simp [← hx]
 have hbsl:=r87.bsl (v:=.agg x) rfl hx
 have hu1:UL (Hp.push ⟨bs,[]⟩ (.cells x 62)) 39 62 c i xs:=hu0.frame fun j hj=>by
  subst hj
  obtain ⟨v,_,h⟩:=hu0
  rw [h];exact get_push_some h
 have happ:=r87.app (env:=[.ptr b 0,.agg x,.tup [],.ptr bs.length 0,.ptr b 0,.ptr b 0,.ptr b 0,.ptr b (0+0),c,.agg x,.sl 39 [.agg x] (.yes 62),.tup [],.tup [],.tup []]) (H:=Hp.push ⟨bs,[]⟩ (.cells x 62)) (lk:=[]) (df:=[]) (ys:=[.agg x]) (o:=.no) (by simp) hu1 hroom
 simp only [Tryz.f34,Option.getD_some,go_seq]
 refine go_reg' (tk:=[]) (by kernel_rfl) ?_
 simp only [go_os,go_os_nil,op_box,take_tmp,takeV_agg,nth_cons0,nth_cons,boxQ_some hbox,opQ_val,putA,List.set_cons_zero,List.set_cons_succ,List.replicate,List.cons_append,List.nil_append,V.laid,hxc]
 refine go_draw' (tk:=[8]) (by kernel_rfl) (by kernel_rfl) ?_
 simp only [go_on,ldChk,true_and,ag87,op_move1,op_loadt1,ne_eq,Nat.reduceEqDiff,not_false_eq_true,op_nilCheck,op_fieldAddr2,peek,nth_cons0,nth_cons,rdQ_some,opQ_val,putA,List.set_cons_zero,List.set_cons_succ,clr_ptr,Option.bind_some,derefA,fo89,faddrO_some,faddrV]
 rw [lodT_ul (c:=c) ag87 (get_push_some hb0) rfl hct.2]
 simp only [opQ_val,putA,List.set_cons_zero,List.set_cons_succ,go_on,ldChk,true_and,ag62,op_load1,ne_eq,Nat.reduceEqDiff,not_false_eq_true,peek,nth_cons0,nth_cons,clr_ptr,List.all_nil,Option.bind_some,
  hld,Option.map_some,rdQ_some,clr_agg,clr_sl,op_bsl1,hbsl,op_append_u (cx:=⟨Tryz.prog,gl.g,callA Tryz.prog gl n,uqw⟩) (show uqT Tryz.prog uqw 87=true by kernel_rfl)]
 cases i with
 | none =>
  obtain ⟨rfl,rfl⟩:=hu
  simp only [clr_snil]
  rw [happ]
  simp only [opQ_val,putA,List.set_cons_zero,List.set_cons_succ,go_on,go_on_nil,ldChk,true_and,op_nilCheck,op_fieldAddr2,op_store_x,take_tmp,peek,nth_cons0,nth_cons,rdQ_some,clr_ptr,Option.bind_some,derefA,fo89,faddrO_some,faddrV,takeV_ulr,Nat.add_zero]
  rw [storX_ptr (cs:=[.snil]) (ty:=ty) r87.st (get_push_some (get_push_some hb0)) rfl rfl (by simp) (by simp [mayA,locked])]
  simp only [opQ_skip,putA,go_nil,Fx,Vm.storeCells,V.laid,len_push,List.set_cons_zero]
  refine ⟨trivial,[],rfl,rfl,.ulr (bs.length+1) 0 1,bs.length+1,?_,?_,?_,by omega,.inr ⟨by omega,?_⟩,?_⟩
  ·intro d hd hdb _
   rw [get_edge,get_set,get_push,get_push]
   cases hg:Hp.get ⟨bs,[]⟩ d with
   | none=>exact absurd hg (by simp [Hp.get,nth_eq,hd])
   | some y=>simp only [if_neg hdb];exact hg.symm
  ·rw [get_edge,get_set,get_push_some (get_push_some hb0)];simp
  ·refine ⟨0,rfl,?_⟩
   rw [get_edge,get_set]
   have:Hp.get (Hp.push (Hp.push ⟨bs,[]⟩ (.cells x 62)) (.ul 0 39 (flatV [.agg x]) 62)) (bs.length+1)=some (.ul 0 39 (flatV [.agg x]) 62):=by
    rw [get_push,get_ge (by simp [Hp.push])];simp [Hp.push]
   rw [this]
   have hne:bs.length+1≠b:=by omega
   simp [hne,flatV,V.cells]
  ·exact edge_mem (v:=.ulr (bs.length+1) 0 1) (by simp [V.top];omega)
  ·rw [len_edge,len_set,len_push,len_push];show bs.length≤bs.length+1+1;omega
 | some j =>
  obtain ⟨v,rfl,hj⟩:=hu0
  have hjb:j≠b:=fun e=>hib (by rw [e])
  have hjl:j<bs.length:=get_lt hj
  simp only [clr_ulr] at happ ⊢
  rw [happ]
  simp only [opQ_val,putA,List.set_cons_zero,List.set_cons_succ,go_on,go_on_nil,ldChk,true_and,op_nilCheck,op_fieldAddr2,op_store_x,take_tmp,peek,nth_cons0,nth_cons,rdQ_some,clr_ptr,Option.bind_some,derefA,fo89,faddrO_some,faddrV,takeV_ulr,Nat.add_zero]
  have hb2:∀ y,(((Hp.push ⟨bs,[]⟩ (.cells x 62)).set j y).edge j (.tup [.agg x])).get b=some (.cells [.ulr j v xs.length] ty):=fun y=>by
   rw [get_edge,get_set,get_push_some hb0];simp [Ne.symm hjb]
  rw [storX_ptr (cs:=[.ulr j v xs.length]) (ty:=ty) r87.st (hb2 _) rfl rfl (by simp) (by simp [mayA,locked])]
  simp only [opQ_skip,putA,go_nil,Fx,Vm.storeCells,V.laid,List.set_cons_zero]
  refine ⟨trivial,[],rfl,rfl,.ulr j (v+1) (xs.length+1),j,?_,?_,?_,hjb,.inl rfl,?_⟩
  ·intro d hd hdb hdj
   have hdj':d≠j:=fun e=>hdj (by rw [e])
   rw [get_edge,get_set,get_edge,get_set,get_push]
   cases hg:Hp.get ⟨bs,[]⟩ d with
   | none=>exact absurd hg (by simp [Hp.get,nth_eq,hd])
   | some y=>simp only [if_neg hdb,if_neg hdj'];exact hg.symm
  ·rw [get_edge,get_set,hb2];simp
  ·refine ⟨v+1,by simp,?_⟩
   rw [get_edge,get_set,get_edge,get_set,get_push_some hj]
   simp [hjb,flatV,V.cells]
  ·simp [len_edge,len_set,len_push]
end Go.Proofs.YtkbdcmehffmfpaaGreatDoor
namespace Go.Proofs.YtkbdcmehffmfpaaGreatDoor
set_option maxRecDepth 100000
open Go Go.Vm
variable {gl:Gl}
theorem o086:Tryz.prog.underlying 84=some (.slice 92):=r84.u
theorem pop92 (hg:GW gl) {n:Nat} {H:Hp} {b j:Nat} {c:V} {ty:TypeId} {xs:List (List V)} {x:List V} (hb:H.get b=some (.cells [c] ty)) (hu:UL H 11 92 c (some j) (xs++[x])) (hjb:j≠b) (hx:x.length=11) (hxc:x.map clr=x) (hxt:tops x=0) (hxs:∀ y∈xs,y.length=11) (hlen:xs.length<140737488355328) :
  ∃ H' c',callA Tryz.prog gl (n+1) 33 [.ptr b 0] H=some (.ret (.agg x),H')∧H'.get b=some (.cells [c'] ty)∧UL H' 11 92 c' (some j) xs∧Frm H H' (fun d=>d=b∨d=j):=by
 obtain ⟨bs,es⟩:=H
 have hlt:b<bs.length:=get_lt hb
 obtain ⟨v,rfl,hj⟩:=hu
 have hjl:j<bs.length:=get_lt hj
 have hb0:Hp.get ⟨bs,[]⟩ b=some (.cells [.ulr j v (xs++[x]).length] ty):=hb
 have hj0:Hp.get ⟨bs,[]⟩ j=some (.ul v 11 (xs++[x]).flatten 92):=hj
 obtain ⟨z,hz1,hz2,hz3,hz4⟩:=r84.zero
 have hfl:(xs++[x]).flatten.length=xs.length * 11+11:=by
  rw [flat_len (n:=11) (by intro y hy;rcases List.mem_append.1 hy with h|h;exact hxs y h;simp at h;rw [h,hx])]
  simp [Nat.succ_mul]
 suffices hmain:(go ⟨Tryz.prog,gl,callA Tryz.prog gl n,uqw⟩ n (Fx Tryz.prog Tryz.f33.results.toList fun w H1=>w=.agg x∧∃ c',(∀ d,d<bs.length→d≠b→d≠j→H1.get d=Hp.get ⟨bs,es⟩ d)∧H1.get b=some (.cells [c'] ty)∧UL H1 11 92 c' (some j) xs∧bs.length≤H1.blks.length) [.c (Tryz.f33.body.getD .skip)] .normal ⟨[.ptr b 0]++List.replicate 30 (.tup []),⟨bs,[]⟩,[],[]⟩) by
  obtain ⟨w,H1,h0,rfl,c',h2,h3,h4,h7⟩:=go_intro' (gl:=gl) (f:=33) (bs:=bs) (es:=es) (args:=[.ptr b 0]) (n:=n) (hg.hk _ _ (by decide)) (fun H=>hg.hk2 _ _ _ _) Tryz.func33 rfl (by rw [hg.uq];exact hmain)
  exact ⟨_,c',h0,(finishH_get hlt).trans h3,h4.frame fun k hk=>by cases hk;exact finishH_get hjl,finishH_len h7,fun d hd hn=>(finishH_get hd).trans (h2 d hd (fun e=>hn (.inl e)) (fun e=>hn (.inr e)))⟩
 simp only [Tryz.f33,Option.getD_some,go_seq]
 refine go_reg' (tk:=[]) (by kernel_rfl) ?_
 simp only [go_os,go_os_nil,go_seq,op_alloc_z,hz1,alcQ_some hz2,opQ_val,putA,List.set_cons_zero,List.set_cons_succ,List.replicate,List.cons_append,List.nil_append]
 refine go_draw' (tk:=[]) (by kernel_rfl) (by kernel_rfl) ?_
 have hbA:(Hp.push ⟨bs,[]⟩ (.cells z.cells 92)).get b=some (.cells [.ulr j v (xs++[x]).length] ty):=get_push_some hb0
 have hjA:(Hp.push ⟨bs,[]⟩ (.cells z.cells 92)).get j=some (.ul v 11 (xs++[x]).flatten 92):=get_push_some hj0
 have hsub:∀ u w,binV Tryz.prog .sub 3 u w (some (.int .i64 ((xs++[x]).length:Int))) (some (.int .i64 1))=some (.int .i64 (xs.length:Int)):=fun u w=>by
  rw [bin_sub,wrap_i64 (by simp only [List.length_append,List.length_singleton];omega) (by simp only [List.length_append,List.length_singleton];omega)];simp
 have hldA:loadA Tryz.prog (Hp.push ⟨bs,[]⟩ (.cells z.cells 92)) gl.g 92 (.ulp j v (xs.length * 11))=some (.agg x):=by
  rw [load_ulp ag92 sz92 hjA (by rw [hfl];omega)]
  rw [List.flatten_append,List.drop_append_of_le_length (by rw [flat_len hxs];omega),List.drop_eq_nil_of_le (by rw [flat_len hxs];omega)]
  simp [← hx]
 have hld0:loadA Tryz.prog (Hp.push ⟨bs,[]⟩ (.cells z.cells 92)) gl.g 84 (.ptr b 0)=some (.ulr j v (xs++[x]).length):=load_one ag84 hbA rfl
 have hia:indexAddrA Tryz.prog 84 (.ulr j v (xs++[x]).length) (xs.length:Int)=some (.ulp j v (xs.length * 11)):=by
  rw [iaddr_ulr o086 sz92 (by simp only [List.length_append,List.length_singleton];omega),Int.toNat_natCast]
 simp only [go_on,go_on_nil,ldChk,true_and,ag92,ag84,op_move0,op_load0,op_nilCheck,op_fieldAddr2,op_len,op_binOp,op_indexAddr,op_alloc_z,hz1,alcQ_some hz2,op_store_x,take_tmp,peek,ofVal,nth_cons0,nth_cons,rdQ_some,opQ_val,putA,List.set_cons_zero,List.set_cons_succ,clr_ptr,clr_ulr,clr_int,clr_agg,clr_ulp,takeV_agg,Option.map_some,Option.bind_some,derefA,fo86,faddrO_some,faddrV,Nat.add_zero,
  hld0,lenA_ulr o086,hsub,idxV,hia,hldA]
 obtain ⟨HA,hHA⟩:∃ HA,HA=Hp.push ⟨bs,[]⟩ (.cells z.cells 92):=⟨_,rfl⟩
 rw [← hHA] at hbA hjA hld0 ⊢
 have hA1:HA.blks.length=bs.length+1:=by rw [hHA,len_push]
 have h2A:HA.get bs.length=some (.cells z.cells 92):=by rw [hHA];exact get_new'
 have hkA:∀ d,d<bs.length→HA.get d=Hp.get ⟨bs,es⟩ d:=fun d hd=>by rw [hHA,push_lt hd];rfl
 rw [storX_ptr (v:=.agg x) sz92 (get_new (H:=HA)) rfl (by simp [V.laid,hx]) (by rw [hz3];omega) (mayA_all hz4 (by rw [hz3];omega))]
 simp only [opQ_skip,putA,go_seq,V.laid,hxc,stc_all (show z.cells.length=x.length by rw [hz3,hx])]
 rw [edge0 (v:=.agg x) (by simp [V.top,hxt])]
 obtain ⟨HB,hHB⟩:∃ HB,HB=Hp.set (HA.push (.cells z.cells 92)) HA.blks.length (.cells x 92):=⟨_,rfl⟩
 rw [← hHB,hA1]
 have hbB:HB.get b=some (.cells [.ulr j v (xs++[x]).length] ty):=by rw [hHB,set_ne (by omega),push_lt (by omega),hbA]
 have hjB:HB.get j=some (.ul v 11 (xs++[x]).flatten 92):=by rw [hHB,set_ne (by omega),push_lt (by omega),hjA]
 have h2B:HB.get bs.length=some (.cells z.cells 92):=by rw [hHB,set_ne (by omega),push_lt (by omega),h2A]
 have h3B:HB.get (bs.length+1)=some (.cells x 92):=by rw [hHB,← hA1,set_eq get_new]
 have hkB:∀ d,d<bs.length→HB.get d=Hp.get ⟨bs,es⟩ d:=fun d hd=>by rw [hHB,set_ne (by omega),push_lt (by omega),hkA d hd]
 have hlB:HB.blks.length=bs.length+2:=by rw [hHB,len_set,len_push,hA1]
 refine go_draw' (tk:=[]) (by kernel_rfl) (by kernel_rfl) ?_
 have hldB:loadA Tryz.prog HB gl.g 84 (.ptr b 0)=some (.ulr j v (xs++[x]).length):=load_one ag84 hbB rfl
 simp only [go_on,ldChk,true_and,ag84,op_move0,op_load0,op_nilCheck,op_fieldAddr2,op_len,op_binOp,op_slice_u (cx:=⟨Tryz.prog,gl.g,callA Tryz.prog gl n,uqw⟩) (show uqT Tryz.prog uqw 84=true by kernel_rfl),peek,peekO,ofVal,nth_cons0,nth_cons,rdQ_some,opQ_val,putA,List.set_cons_zero,List.set_cons_succ,clr_ptr,clr_ulr,clr_int,Option.map_some,Option.bind_some,derefA,fo86,faddrO_some,faddrV,Nat.add_zero,
  hldB,lenA_ulr o086,hsub]
 have hslc:∀ env,slcU Tryz.prog 84 env HB [] [] (some (.ulr j v (xs++[x]).length)) (some none) (some (some (.int .i64 (xs.length:Int))))=some (.val (.ulr j (v+1) xs.length),⟨env,(HB.set j (.ul (v+1) 11 xs.flatten 92)).edge j .nilp,[],[]⟩):=fun env=>by
  have hle:xs.length≤(xs++[x]).length:=by simp
  simp only [slcU,o086,hjB,sz92,Int.toNat_natCast,hle,and_true,Int.natCast_nonneg,if_true]
  rw [List.flatten_append,← flat_len hxs,List.take_left]
 rw [hslc]
 simp only [go_on,go_on_nil,go_seq,ldChk,true_and,op_nilCheck,op_fieldAddr2,op_store_x,take_tmp,peek,nth_cons0,nth_cons,rdQ_some,opQ_val,putA,List.set_cons_zero,List.set_cons_succ,clr_ptr,takeV_ulr,Option.bind_some,derefA,fo86,faddrO_some,faddrV,Nat.add_zero]
 rw [storX_ptr (cs:=[.ulr j v (xs++[x]).length]) (ty:=ty) r84.st (by rw [edge_ne (Ne.symm hjb),hbB]) rfl rfl (by simp) (by simp [mayA,locked])]
 obtain ⟨HC,hHC⟩:∃ HC,HC=Hp.edge (Hp.set ((HB.set j (.ul (v+1) 11 xs.flatten 92)).edge j .nilp) b (.cells (Vm.storeCells [.ulr j v (xs++[x]).length] 0 (V.laid (.ulr j (v+1) xs.length))) ty)) b (.ulr j (v+1) xs.length):=⟨_,rfl⟩
 rw [← hHC]
 have hbC:HC.get b=some (.cells [.ulr j (v+1) xs.length] ty):=by rw [hHC,edge_eq (by rw [edge_ne (Ne.symm hjb),hbB])];rfl
 have hjC:HC.get j=some (.ul (v+1) 11 xs.flatten 92):=by rw [hHC,edge_ne hjb,edge_eq hjB]
 have h2C:HC.get bs.length=some (.cells z.cells 92):=by rw [hHC,edge_ne (by omega),edge_ne (by omega),h2B]
 have h3C:HC.get (bs.length+1)=some (.cells x 92):=by rw [hHC,edge_ne (by omega),edge_ne (by omega),h3B]
 have hkC:∀ d,d<bs.length→d≠b→d≠j→HC.get d=Hp.get ⟨bs,es⟩ d:=fun d hd h1 h2=>by rw [hHC,edge_ne h1,edge_ne h2,hkB d hd]
 have hlC:HC.blks.length=bs.length+2:=by rw [hHC,len_se,len_se,hlB]
 simp only [opQ_skip,putA]
 refine go_reg' (tk:=[]) (by kernel_rfl) ?_
 have hldC:loadA Tryz.prog HC gl.g 92 (.ptr (bs.length+1) 0)=some (.agg x):=by
  rw [load_agg ag92 sz92 h3C (by simp [hx])];simp [← hx]
 simp only [go_os,go_os_nil,op_load0,op_store_x,take_tmp,peek,nth_cons0,nth_cons,rdQ_some,opQ_val,putA,List.set_cons_zero,List.set_cons_succ,clr_ptr,clr_agg,takeV_agg,Option.map_some,Option.bind_some,hldC]
 rw [storX_ptr (v:=.agg x) sz92 h2C rfl (by simp [V.laid,hx]) (by rw [hz3];omega) (mayA_all hz4 (by rw [hz3];omega))]
 simp only [opQ_skip,putA,go_ret,go_nil,Fx,V.laid,hxc,stc_all (show z.cells.length=x.length by rw [hz3,hx])]
 rw [edge0 (v:=.agg x) (by simp [V.top,hxt])]
 obtain ⟨HD,hHD⟩:∃ HD,HD=Hp.set HC bs.length (.cells x 92):=⟨_,rfl⟩
 rw [← hHD]
 have h2D:HD.get bs.length=some (.cells x 92):=by rw [hHD,set_eq h2C]
 refine ⟨trivial,[.agg x],?_,rfl,.ulr j (v+1) xs.length,fun d hd h1 h2=>by rw [hHD,set_ne (by omega),hkC d hd h1 h2],by rw [hHD,set_ne (by omega),hbC],⟨v+1,rfl,by rw [hHD,set_ne (by omega),hjC]⟩,by rw [hHD,len_set,hlC];omega⟩
 simp only [resultsA,nth_cons0,nth_cons]
 rw [load_agg ag92 sz92 h2D (by simp [hx])]
 simp [clr,← hx]
theorem o089:Tryz.prog.underlying 87=some (.slice 62):=r87.u
theorem pop62 (hg:GW gl) {n:Nat} {H:Hp} {b j:Nat} {c:V} {ty:TypeId} {xs:List (List V)} {x:List V} (hb:H.get b=some (.cells [c] ty)) (hu:UL H 39 62 c (some j) (xs++[x])) (hjb:j≠b) (hx:x.length=39) (hxc:x.map clr=x) (hxt:tops x=0) (hxs:∀ y∈xs,y.length=39) (hlen:xs.length<140737488355328) :
  ∃ H' c',callA Tryz.prog gl (n+1) 36 [.ptr b 0] H=some (.ret (.agg x),H')∧H'.get b=some (.cells [c'] ty)∧UL H' 39 62 c' (some j) xs∧Frm H H' (fun d=>d=b∨d=j):=by
 obtain ⟨bs,es⟩:=H
 have hlt:b<bs.length:=get_lt hb
 obtain ⟨v,rfl,hj⟩:=hu
 have hjl:j<bs.length:=get_lt hj
 have hb0:Hp.get ⟨bs,[]⟩ b=some (.cells [.ulr j v (xs++[x]).length] ty):=hb
 have hj0:Hp.get ⟨bs,[]⟩ j=some (.ul v 39 (xs++[x]).flatten 62):=hj
 obtain ⟨z,hz1,hz2,hz3,hz4⟩:=r87.zero
 have hfl:(xs++[x]).flatten.length=xs.length * 39+39:=by
  rw [flat_len (n:=39) (by intro y hy;rcases List.mem_append.1 hy with h|h;exact hxs y h;simp at h;rw [h,hx])]
  simp [Nat.succ_mul]
 suffices hmain:(go ⟨Tryz.prog,gl,callA Tryz.prog gl n,uqw⟩ n (Fx Tryz.prog Tryz.f36.results.toList fun w H1=>w=.agg x∧∃ c',(∀ d,d<bs.length→d≠b→d≠j→H1.get d=Hp.get ⟨bs,es⟩ d)∧H1.get b=some (.cells [c'] ty)∧UL H1 39 62 c' (some j) xs∧bs.length≤H1.blks.length) [.c (Tryz.f36.body.getD .skip)] .normal ⟨[.ptr b 0]++List.replicate 30 (.tup []),⟨bs,[]⟩,[],[]⟩) by
  obtain ⟨w,H1,h0,rfl,c',h2,h3,h4,h7⟩:=go_intro' (gl:=gl) (f:=36) (bs:=bs) (es:=es) (args:=[.ptr b 0]) (n:=n) (hg.hk _ _ (by decide)) (fun H=>hg.hk2 _ _ _ _) Tryz.func36 rfl (by rw [hg.uq];exact hmain)
  exact ⟨_,c',h0,(finishH_get hlt).trans h3,h4.frame fun k hk=>by cases hk;exact finishH_get hjl,finishH_len h7,fun d hd hn=>(finishH_get hd).trans (h2 d hd (fun e=>hn (.inl e)) (fun e=>hn (.inr e)))⟩
 simp only [Tryz.f36,Option.getD_some,go_seq]
 refine go_reg' (tk:=[]) (by kernel_rfl) ?_
 simp only [go_os,go_os_nil,go_seq,op_alloc_z,hz1,alcQ_some hz2,opQ_val,putA,List.set_cons_zero,List.set_cons_succ,List.replicate,List.cons_append,List.nil_append]
 refine go_draw' (tk:=[]) (by kernel_rfl) (by kernel_rfl) ?_
 have hbA:(Hp.push ⟨bs,[]⟩ (.cells z.cells 62)).get b=some (.cells [.ulr j v (xs++[x]).length] ty):=get_push_some hb0
 have hjA:(Hp.push ⟨bs,[]⟩ (.cells z.cells 62)).get j=some (.ul v 39 (xs++[x]).flatten 62):=get_push_some hj0
 have hsub:∀ u w,binV Tryz.prog .sub 3 u w (some (.int .i64 ((xs++[x]).length:Int))) (some (.int .i64 1))=some (.int .i64 (xs.length:Int)):=fun u w=>by
  rw [bin_sub,wrap_i64 (by simp only [List.length_append,List.length_singleton];omega) (by simp only [List.length_append,List.length_singleton];omega)];simp
 have hldA:loadA Tryz.prog (Hp.push ⟨bs,[]⟩ (.cells z.cells 62)) gl.g 62 (.ulp j v (xs.length * 39))=some (.agg x):=by
  rw [load_ulp ag62 sz62 hjA (by rw [hfl];omega)]
  rw [List.flatten_append,List.drop_append_of_le_length (by rw [flat_len hxs];omega),List.drop_eq_nil_of_le (by rw [flat_len hxs];omega)]
  simp [← hx]
 have hld0:loadA Tryz.prog (Hp.push ⟨bs,[]⟩ (.cells z.cells 62)) gl.g 87 (.ptr b 0)=some (.ulr j v (xs++[x]).length):=load_one ag87 hbA rfl
 have hia:indexAddrA Tryz.prog 87 (.ulr j v (xs++[x]).length) (xs.length:Int)=some (.ulp j v (xs.length * 39)):=by
  rw [iaddr_ulr o089 sz62 (by simp only [List.length_append,List.length_singleton];omega),Int.toNat_natCast]
 simp only [go_on,go_on_nil,ldChk,true_and,ag62,ag87,op_move0,op_load0,op_nilCheck,op_fieldAddr2,op_len,op_binOp,op_indexAddr,op_alloc_z,hz1,alcQ_some hz2,op_store_x,take_tmp,peek,ofVal,nth_cons0,nth_cons,rdQ_some,opQ_val,putA,List.set_cons_zero,List.set_cons_succ,clr_ptr,clr_ulr,clr_int,clr_agg,clr_ulp,takeV_agg,Option.map_some,Option.bind_some,derefA,fo89,faddrO_some,faddrV,Nat.add_zero,
  hld0,lenA_ulr o089,hsub,idxV,hia,hldA]
 obtain ⟨HA,hHA⟩:∃ HA,HA=Hp.push ⟨bs,[]⟩ (.cells z.cells 62):=⟨_,rfl⟩
 rw [← hHA] at hbA hjA hld0 ⊢
 have hA1:HA.blks.length=bs.length+1:=by rw [hHA,len_push]
 have h2A:HA.get bs.length=some (.cells z.cells 62):=by rw [hHA];exact get_new'
 have hkA:∀ d,d<bs.length→HA.get d=Hp.get ⟨bs,es⟩ d:=fun d hd=>by rw [hHA,push_lt hd];rfl
 rw [storX_ptr (v:=.agg x) sz62 (get_new (H:=HA)) rfl (by simp [V.laid,hx]) (by rw [hz3];omega) (mayA_all hz4 (by rw [hz3];omega))]
 simp only [opQ_skip,putA,go_seq,V.laid,hxc,stc_all (show z.cells.length=x.length by rw [hz3,hx])]
 rw [edge0 (v:=.agg x) (by simp [V.top,hxt])]
 obtain ⟨HB,hHB⟩:∃ HB,HB=Hp.set (HA.push (.cells z.cells 62)) HA.blks.length (.cells x 62):=⟨_,rfl⟩
 rw [← hHB,hA1]
 have hbB:HB.get b=some (.cells [.ulr j v (xs++[x]).length] ty):=by rw [hHB,set_ne (by omega),push_lt (by omega),hbA]
 have hjB:HB.get j=some (.ul v 39 (xs++[x]).flatten 62):=by rw [hHB,set_ne (by omega),push_lt (by omega),hjA]
 have h2B:HB.get bs.length=some (.cells z.cells 62):=by rw [hHB,set_ne (by omega),push_lt (by omega),h2A]
 have h3B:HB.get (bs.length+1)=some (.cells x 62):=by rw [hHB,← hA1,set_eq get_new]
 have hkB:∀ d,d<bs.length→HB.get d=Hp.get ⟨bs,es⟩ d:=fun d hd=>by rw [hHB,set_ne (by omega),push_lt (by omega),hkA d hd]
 have hlB:HB.blks.length=bs.length+2:=by rw [hHB,len_set,len_push,hA1]
 refine go_draw' (tk:=[]) (by kernel_rfl) (by kernel_rfl) ?_
 have hldB:loadA Tryz.prog HB gl.g 87 (.ptr b 0)=some (.ulr j v (xs++[x]).length):=load_one ag87 hbB rfl
 simp only [go_on,ldChk,true_and,ag87,op_move0,op_load0,op_nilCheck,op_fieldAddr2,op_len,op_binOp,op_slice_u (cx:=⟨Tryz.prog,gl.g,callA Tryz.prog gl n,uqw⟩) (show uqT Tryz.prog uqw 87=true by kernel_rfl),peek,peekO,ofVal,nth_cons0,nth_cons,rdQ_some,opQ_val,putA,List.set_cons_zero,List.set_cons_succ,clr_ptr,clr_ulr,clr_int,Option.map_some,Option.bind_some,derefA,fo89,faddrO_some,faddrV,Nat.add_zero,
  hldB,lenA_ulr o089,hsub]
 have hslc:∀ env,slcU Tryz.prog 87 env HB [] [] (some (.ulr j v (xs++[x]).length)) (some none) (some (some (.int .i64 (xs.length:Int))))=some (.val (.ulr j (v+1) xs.length),⟨env,(HB.set j (.ul (v+1) 39 xs.flatten 62)).edge j .nilp,[],[]⟩):=fun env=>by
  have hle:xs.length≤(xs++[x]).length:=by simp
  simp only [slcU,o089,hjB,sz62,Int.toNat_natCast,hle,and_true,Int.natCast_nonneg,if_true]
  rw [List.flatten_append,← flat_len hxs,List.take_left]
 rw [hslc]
 simp only [go_on,go_on_nil,go_seq,ldChk,true_and,op_nilCheck,op_fieldAddr2,op_store_x,take_tmp,peek,nth_cons0,nth_cons,rdQ_some,opQ_val,putA,List.set_cons_zero,List.set_cons_succ,clr_ptr,takeV_ulr,Option.bind_some,derefA,fo89,faddrO_some,faddrV,Nat.add_zero]
 rw [storX_ptr (cs:=[.ulr j v (xs++[x]).length]) (ty:=ty) r87.st (by rw [edge_ne (Ne.symm hjb),hbB]) rfl rfl (by simp) (by simp [mayA,locked])]
 obtain ⟨HC,hHC⟩:∃ HC,HC=Hp.edge (Hp.set ((HB.set j (.ul (v+1) 39 xs.flatten 62)).edge j .nilp) b (.cells (Vm.storeCells [.ulr j v (xs++[x]).length] 0 (V.laid (.ulr j (v+1) xs.length))) ty)) b (.ulr j (v+1) xs.length):=⟨_,rfl⟩
 rw [← hHC]
 have hbC:HC.get b=some (.cells [.ulr j (v+1) xs.length] ty):=by rw [hHC,edge_eq (by rw [edge_ne (Ne.symm hjb),hbB])];rfl
 have hjC:HC.get j=some (.ul (v+1) 39 xs.flatten 62):=by rw [hHC,edge_ne hjb,edge_eq hjB]
 have h2C:HC.get bs.length=some (.cells z.cells 62):=by rw [hHC,edge_ne (by omega),edge_ne (by omega),h2B]
 have h3C:HC.get (bs.length+1)=some (.cells x 62):=by rw [hHC,edge_ne (by omega),edge_ne (by omega),h3B]
 have hkC:∀ d,d<bs.length→d≠b→d≠j→HC.get d=Hp.get ⟨bs,es⟩ d:=fun d hd h1 h2=>by rw [hHC,edge_ne h1,edge_ne h2,hkB d hd]
 have hlC:HC.blks.length=bs.length+2:=by rw [hHC,len_se,len_se,hlB]
 simp only [opQ_skip,putA]
 refine go_reg' (tk:=[]) (by kernel_rfl) ?_
 have hldC:loadA Tryz.prog HC gl.g 62 (.ptr (bs.length+1) 0)=some (.agg x):=by
  rw [load_agg ag62 sz62 h3C (by simp [hx])];simp [← hx]
 simp only [go_os,go_os_nil,op_load0,op_store_x,take_tmp,peek,nth_cons0,nth_cons,rdQ_some,opQ_val,putA,List.set_cons_zero,List.set_cons_succ,clr_ptr,clr_agg,takeV_agg,Option.map_some,Option.bind_some,hldC]
 rw [storX_ptr (v:=.agg x) sz62 h2C rfl (by simp [V.laid,hx]) (by rw [hz3];omega) (mayA_all hz4 (by rw [hz3];omega))]
 simp only [opQ_skip,putA,go_ret,go_nil,Fx,V.laid,hxc,stc_all (show z.cells.length=x.length by rw [hz3,hx])]
 rw [edge0 (v:=.agg x) (by simp [V.top,hxt])]
 obtain ⟨HD,hHD⟩:∃ HD,HD=Hp.set HC bs.length (.cells x 62):=⟨_,rfl⟩
 rw [← hHD]
 have h2D:HD.get bs.length=some (.cells x 62):=by rw [hHD,set_eq h2C]
 refine ⟨trivial,[.agg x],?_,rfl,.ulr j (v+1) xs.length,fun d hd h1 h2=>by rw [hHD,set_ne (by omega),hkC d hd h1 h2],by rw [hHD,set_ne (by omega),hbC],⟨v+1,rfl,by rw [hHD,set_ne (by omega),hjC]⟩,by rw [hHD,len_set,hlC];omega⟩
 simp only [resultsA,nth_cons0,nth_cons]
 rw [load_agg ag62 sz62 h2D (by simp [hx])]
 simp [clr,← hx]
end Go.Proofs.YtkbdcmehffmfpaaGreatDoor
namespace Go.Proofs.YtkbdcmehffmfpaaGreatDoor
set_option maxRecDepth 100000
open Go Go.Vm
variable {gl:Gl}
theorem fol_snoc {q:Nat→Bool} {k:Nat}:∀ {ks:List Nat} {ns:List (Nat→Bool)},fol q (ks++[k]) ns=(fol q ks ns).set k (joinP ((fol q ks ns).getD k fun _=>false) q)
 | [],_=>rfl
 | _::ks,_=>by simp only [List.cons_append,fol];exact fol_snoc
def setU (bs:List Blk) (i:Option Nat) (ns:List (Nat→Bool)):List Blk :=
 match i with
 | none=>bs
 | some j=>match nth bs j with
  | some (.ul v sz _ e)=>bs.set j (.ul v sz (ns.map (pv 19)).flatten e)
  | _=>bs
theorem setU_some {bs:List Blk} {j v sz e:Nat} {cs:List V} {ns:List (Nat→Bool)} (h:nth bs j=some (.ul v sz cs e)):setU bs (some j) ns=bs.set j (.ul v sz (ns.map (pv 19)).flatten e):=by simp only [setU,h]
theorem setU_len {bs:List Blk} {i:Option Nat} {ns:List (Nat→Bool)}:(setU bs i ns).length=bs.length:=by
 unfold setU
 split
 ·rfl
 ·split
  ·simp
  ·rfl
theorem setU_ne {bs:List Blk} {i:Option Nat} {ns:List (Nat→Bool)} {d:Nat} (h:i≠some d):nth (setU bs i ns) d=nth bs d:=by
 unfold setU
 split
 ·rfl
 ·rename_i j
  split
  ·rw [nth_eq,List.getElem?_set_ne (by intro e;exact h (by rw [e])),nth_eq]
  ·rfl
theorem UL_nd {bs:List Blk} {es:List (Nat×Nat)} {sz:Nat} {e:TypeId} {c:V} {i:Option Nat} {xs:List (List V)} (h:UL ⟨bs,es⟩ sz e c i xs) {d:Nat} {cs:List V} {ty:TypeId} (hd:nth bs d=some (.cells cs ty)):i≠some d:=by
 intro e
 subst e
 obtain ⟨v,_,h2⟩:=h
 simp only [Hp.get] at h2
 rw [hd] at h2
 cases h2
theorem setU_ul {bs:List Blk} {es fs:List (Nat×Nat)} {e:TypeId} {c:V} {i:Option Nat} {ns ns':List (Nat→Bool)} (h:UL ⟨bs,es⟩ 19 e c i (ns.map (pv 19))) (hl:ns'.length=ns.length):UL ⟨setU bs i ns',fs⟩ 19 e c i (ns'.map (pv 19)):=by
 cases i with
 | none =>
  obtain ⟨h1,h2⟩:=h
  have:ns=[]:=by simpa using h2
  subst this
  exact ⟨h1,by simp [List.eq_nil_of_length_eq_zero hl]⟩
 | some j =>
  obtain ⟨v,h1,h2⟩:=h
  have h2':nth bs j=some (.ul v 19 (ns.map (pv 19)).flatten e):=h2
  refine ⟨v,by rw [h1];simp [hl],?_⟩
  have hlt:j<bs.length:=by rw [nth_eq] at h2';exact (List.getElem?_eq_some_iff.1 h2').1
  rw [setU_some h2']
  simp [Hp.get,nth_eq,hlt]
theorem setU_same {bs:List Blk} {es:List (Nat×Nat)} {e:TypeId} {c:V} {i:Option Nat} {ns:List (Nat→Bool)} (h:UL ⟨bs,es⟩ 19 e c i (ns.map (pv 19))):setU bs i ns=bs:=by
 cases i with
 | none=>rfl
 | some j =>
  obtain ⟨v,h1,h2⟩:=h
  have h2':nth bs j=some (.ul v 19 (ns.map (pv 19)).flatten e):=h2
  rw [setU_some h2']
  exact set_same' h2'
theorem setU_twice {bs:List Blk} {i:Option Nat} {ns ns':List (Nat→Bool)}:setU (setU bs i ns) i ns'=setU bs i ns':=by
 cases i with
 | none=>rfl
 | some j =>
  simp only [setU]
  cases h:nth bs j with
  | none=>simp [h]
  | some b =>
   have hlt:j<bs.length:=by rw [nth_eq] at h;exact (List.getElem?_eq_some_iff.1 h).1
   cases b<;>simp [h,nth_eq,hlt]
theorem fo58_2:fieldOff Tryz.prog 58 2=some 2:=by kernel_rfl
theorem ag56:aggT Tryz.prog 56=some false:=by kernel_rfl
theorem r56:RowT Tryz.prog 56 60 19 152:=⟨by kernel_rfl,by kernel_rfl,by kernel_rfl,by decide,by kernel_rfl,by kernel_rfl,by kernel_rfl⟩
theorem ag3:aggT Tryz.prog 3=some false:=by kernel_rfl
theorem follows_run (hg:GW gl) {n:Nat} (hn:1300≤n) {bs:List Blk} {es:List (Nat×Nat)} {bm bl ol bf ob:Nat} {a0 a1 c:V} {i:Option Nat} {ns:List (Nat→Bool)} {p q:Nat→Bool} {pre post pre' post':List V} {ty ty' ty0:TypeId}
  (hm:nth bs bm=some (.cells [a0,a1,c] ty0)) (hu:UL ⟨bs,es⟩ 19 60 c i (ns.map (pv 19)))
  (hl:nth bs bl=some (.cells (pre++pv 19 p++post) ty)) (hol:pre.length=ol) (hf:nth bs bf=some (.cells (pre'++pv 19 q++post') ty')) (hof:pre'.length=ob)
  (hmem:∀ k∈preN p 19,k<ns.length) :
  callA Tryz.prog gl (n+1) 19 [.ptr bm 0,.ptr bl ol,.ptr bf ob] ⟨bs,es⟩=some (.ret (.tup []),⟨setU bs i (fol q (preN p 19) ns),es⟩):=by
 generalize hL:preN p 19=L at *
 have hfin:finishH bs.length es 0 ⟨setU bs i (fol q L ns),[]⟩=⟨setU bs i (fol q L ns),es⟩:=by
  have:=finishH_clean (bs:=setU bs i (fol q L ns)) (ls:=[]) (es:=es) (t:=0) (Nat.zero_le _)
  rwa [List.append_nil,setU_len] at this
 suffices hmain:(go ⟨Tryz.prog,gl,callA Tryz.prog gl n,uqw⟩ n (Fx Tryz.prog Tryz.f19.results.toList fun w H1=>w=.tup []∧H1=⟨setU bs i (fol q L ns),[]⟩) [.c (Tryz.f19.body.getD .skip)] .normal ⟨[.ptr bm 0,.ptr bl ol,.ptr bf ob]++List.replicate 21 (.tup []),⟨bs,[]⟩,[],[]⟩) by
  obtain ⟨w,H1,h0,rfl,rfl⟩:=go_intro' (gl:=gl) (f:=19) (bs:=bs) (es:=es) (args:=[.ptr bm 0,.ptr bl ol,.ptr bf ob]) (n:=n) (hg.hk _ _ (by decide)) (fun H=>hg.hk2 _ _ _ _) Tryz.func19 rfl (by rw [hg.uq];exact hmain)
  rw [h0,show (V.tup []).top=0 from rfl,hfin]
 have hLl:L.length≤1216:=by
  have:=preL_len (p:=p) 19
  rw [preL_eq,List.length_map,hL] at this
  omega
 have hlist:Cx.callF ⟨Tryz.prog,gl.g,callA Tryz.prog gl n,uqw⟩ 21 [.ptr bl ol] ⟨bs,[]⟩=some (.val (clr (ownL 1 3 (L.map fun k=>V.int .i64 ((k:Nat):Int)))),⟨bs,[]⟩):=by
  have h:=list_run hg (n:=n - 1) (by omega) (H:=⟨bs,[]⟩) (b:=bl) (off:=ol) (pre:=pre) (post:=post) (p:=p) hl hol
  rw [preL_eq,hL,show n - 1+1=n by omega] at h
  exact callF_run Tryz.func21 rfl h
 simp only [Tryz.f19,Option.getD_some,go_seq]
 refine go_reg' (tk:=[]) (by kernel_rfl) ?_
 simp only [go_os,go_os_nil,op_move0,op_call,peeks,peek,fV_eq,ofVal,nth_cons0,nth_cons,rdQ_some,opQ_val,putA,List.set_cons_zero,List.set_cons_succ,List.replicate,List.cons_append,List.nil_append,clr_ptr,callG_some,callQ,hlist,List.map_cons,List.map_nil,op_len,Option.bind_some,clr_own2,lenA_own r29.u,Option.map_some,List.length_map]
 simp only [go_block]
 refine go_loop (fun m s=>∃ k env,m+k=L.length∧s=⟨env,⟨setU bs i (fol q (L.take k) ns),[]⟩,[],[]⟩∧env.length=24∧nth env 0=some (.ptr bm 0)∧nth env 2=some (.ptr bf ob)∧nth env 9=some (clr (ownL 1 3 (L.map fun k=>V.int .i64 ((k:Nat):Int))))∧nth env 10=some (.int .i64 (L.length:Nat))∧nth env 11=some (.int .i64 (k:Nat))) L.length (by omega) ?_ ?_
 ·have hs0:setU bs i (fol q (L.take 0) ns)=bs:=setU_same hu
  refine ⟨0,_,rfl,by rw [hs0],?_,?_,?_,?_,?_,?_⟩<;>rfl
 rintro m s ⟨k,env,hmk,rfl,hlen,h0,h2,h9,h10,h11⟩
 simp only [go_seq]
 refine go_reg' (tk:=[]) (by kernel_rfl) ?_
 simp only [go_os,go_os_nil,go_seq,go_cond',op_binOp,peek,h10,h11,rdQ_some,opQ_val,putA,nth_set,hlen,Nat.reduceLT,if_true,clr_int,clr_bool,bin_lss,condQ_b]
 by_cases hk:k<L.length
 ·refine .inl ⟨by simp;omega,?_⟩
  simp only [go_skip,go_seq,go_block]
  have hx:nth (L.map fun k=>V.int .i64 ((k:Nat):Int)) k=some (.int .i64 ((L[k]:Nat):Int)):=by rw [nth_eq];simp [hk]
  have hcl:∀ w:V,nth env 9=some w→clr w=w→clr (clr w)=w:=fun w _ h=>by rw [h,h]
  refine go_reg' (tk:=[]) (by kernel_rfl) ?_
  have hia:=iaddr_own r29.u (show szOf Tryz.prog 3=some 1 by kernel_rfl) hx
  simp only [go_os,go_os_nil,op_indexAddr,op_load0,op_assign,take_tmp,peek,h9,h11,rdQ_some,tkQ_some,opQ_val,putA,nth_set,List.length_set,hlen,Nat.reduceEqDiff,Nat.reduceLT,if_true,if_false,clr_int,Option.bind_some,idxV,clr_own2,hia,V.cells,clr_vp,load_vp1 ag3,Option.map_some,takeV_int]
  refine go_reg' (tk:=[]) (by kernel_rfl) ?_
  have hkL:L[k]<ns.length:=hmem _ (List.getElem_mem hk)
  obtain ⟨j,rfl⟩:∃ j,i=some j:=by
   cases i with
   | none =>
    have:ns=[]:=by simpa using hu.2
    subst this
    simp at hkL
   | some j=>exact ⟨j,rfl⟩
  have hjm:=UL_nd hu hm
  have hjf:=UL_nd hu hf
  have hu':=setU_ul (fs:=[]) (ns':=fol q (L.take k) ns) hu fol_len
  obtain ⟨v,rfl,hj⟩:=hu'
  obtain ⟨bs',hbs⟩:∃ bs',bs'=setU bs (some j) (fol q (L.take k) ns):=⟨_,rfl⟩
  have hm':Hp.get ⟨bs',[]⟩ bm=some (.cells [a0,a1,.ulr j v (List.map (pv 19) (fol q (L.take k) ns)).length] ty0):=by rw [hbs];exact (setU_ne hjm).trans hm
  have hf':nth bs' bf=some (.cells (pre'++pv 19 q++post') ty'):=by rw [hbs];exact (setU_ne hjf).trans hf
  obtain ⟨pr,po,g1,g2,g3⟩:=flat_row (ns:=fol q (L.take k) ns) (k:=L[k]) (by rw [fol_len];exact hkL)
  rw [← hbs] at hj ⊢
  have hj':nth bs' j=some (.ul v 19 (pr++pv 19 ((fol q (L.take k) ns).getD L[k] fun _=>false)++po) 60):=by rw [← g2];exact hj
  have hld:loadA Tryz.prog ⟨bs',[]⟩ gl.g 56 (.ptr bm (0+2))=some (.ulr j v (List.map (pv 19) (fol q (L.take k) ns)).length):=load_one ag56 hm' rfl
  have hia2:indexAddrA Tryz.prog 56 (.ulr j v (List.map (pv 19) (fol q (L.take k) ns)).length) ((L[k]:Nat):Int)=some (.ulp j v (L[k] * 19)):=by
   rw [iaddr_ulr r56.u r56.s (by rw [List.length_map,fol_len];omega),Int.toNat_natCast]
  have hjn:=join_ulp hg (n:=n - 1) (by omega) (es:=[]) hj' g1 hf' hof (fun e=>hjf (by rw [e]))
  rw [show n - 1+1=n by omega,← g3] at hjn
  have hcall:Cx.callF ⟨Tryz.prog,gl.g,callA Tryz.prog gl n,uqw⟩ 20 [.ulp j v (L[k] * 19),.ptr bf ob] ⟨bs',[]⟩=_:=callF_run Tryz.func20 rfl hjn
  simp only [go_os,go_os_nil,op_move0,op_nilCheck,op_fieldAddr2,op_load0,op_indexAddr,op_call,peeks,fV_eq,peek,h0,h2,rdQ_some,opQ_val,putA,nth_set,List.length_set,hlen,Nat.reduceEqDiff,Nat.reduceLT,if_true,if_false,clr_ptr,clr_int,clr_ulr,clr_ulp,Option.bind_some,Option.map_some,derefA,fo58_2,faddrO_some,faddrV,idxV,hld,hia2,callG_some,callQ,hcall,List.map_cons,List.map_nil,go_eb]
  have hH:bs'.set j (.ul v 19 (((fol q (L.take k) ns).set L[k] (joinP ((fol q (L.take k) ns).getD L[k] fun _=>false) q)).map (pv 19)).flatten 60)=setU bs (some j) (fol q (L.take (k+1)) ns):=by
   rw [← setU_twice (ns:=fol q (L.take k) ns),← hbs,setU_some hj',List.take_succ_eq_append_getElem hk,fol_snoc]
  rw [hH]
  refine go_reg' (tk:=[]) (by kernel_rfl) ?_
  simp only [go_os,go_os_nil,op_binOp,op_move0,peek,ofVal,h11,rdQ_some,opQ_val,putA,nth_set,List.length_set,hlen,Nat.reduceEqDiff,Nat.reduceLT,if_true,if_false,clr_int,bin_addk (show k<2 ^ 60 by omega),go_nil,thn_normal]
  refine ⟨L.length - (k+1),by omega,k+1,_,by omega,rfl,?_,?_,?_,?_,?_,?_⟩<;>simp [nth_set,hlen,h0,h2,h9,h10]
 ·obtain rfl:k=L.length:=by omega
  refine .inr ⟨by simp,?_⟩
  simp only [go_exit,go_c_exit,go_nil,thn_exit,go_eb_exit,Nat.beq_refl,if_true,Fx]
  refine ⟨trivial,[],rfl,rfl,?_⟩
  rw [List.take_length]
end Go.Proofs.YtkbdcmehffmfpaaGreatDoor
namespace Go.Proofs.YtkbdcmehffmfpaaGreatDoor
set_option maxRecDepth 100000
open Go Go.Vm
variable {gl:Gl}
section
variable {B ls:List Blk} {d k:Nat} {x:Blk}
theorem gB (h:d<B.length):nth (B++ls) d=nth B d:=by rw [nth_eq,nth_eq,List.getElem?_append_left h]
theorem gN:nth (B++ls) (B.length+k)=nth ls k:=by rw [nth_eq,nth_eq,List.getElem?_append_right (by omega)];simp
theorem gN0:nth (B++ls) B.length=nth ls 0:=gN (k:=0)
theorem sN:(B++ls).set (B.length+k) x=B++ls.set k x:=by rw [List.set_append_right _ _ (by omega)];simp
theorem sN0:(B++ls).set B.length x=B++ls.set 0 x:=sN (k:=0)
theorem sB (h:d<B.length):(B++ls).set d x=B.set d x++ls:=List.set_append_left _ _ h
theorem push_mk {es:List (Nat×Nat)}:Hp.push ⟨B,es⟩ x=⟨B++[x],es⟩:=rfl
end
section
variable {P:Program} {t n:TypeId} {B ls:List Blk} {k off:Nat} {cs:List V} {ty:TypeId} {v:V} {env:List V} {lk:List (Nat×Nat)} {df:List (V×List V)} {es:List (Nat×Nat)} {g:Nat→Nat→Option V}
theorem storN (hs:szOf P t=some n) (hg:nth ls k=some (.cells cs ty)) (h1:okC v=true) (h2:v.laid.length=n) (h3:off+n≤cs.length) (h4:cs.all (fun c=>!(locked c))=true) (ht:v.top=0) :
  storX P t ⟨B++ls,es⟩ lk df (some (v,env)) (some (.ptr (B.length+k) off))=some (.skip,⟨env,⟨B++ls.set k (.cells (Vm.storeCells cs off v.laid) ty),es⟩,lk,df⟩):=by
 rw [storX_ptr hs (show Hp.get ⟨B++ls,es⟩ _=_ from gN.trans hg) h1 h2 h3 (mayA_all h4 h3),edge0 (by rw [ht];omega)]
 simp only [Hp.set,sN]
theorem storN0 (hs:szOf P t=some n) (hg:nth ls 0=some (.cells cs ty)) (h1:okC v=true) (h2:v.laid.length=n) (h3:off+n≤cs.length) (h4:cs.all (fun c=>!(locked c))=true) (ht:v.top=0) :
  storX P t ⟨B++ls,es⟩ lk df (some (v,env)) (some (.ptr B.length off))=some (.skip,⟨env,⟨B++ls.set 0 (.cells (Vm.storeCells cs off v.laid) ty),es⟩,lk,df⟩):=storN (k:=0) hs hg h1 h2 h3 h4 ht
theorem ld1N (ha:aggT P t=some false) (hg:nth ls k=some (.cells cs ty)) (hn:nth cs off=some v):loadA P ⟨B++ls,es⟩ g t (.ptr (B.length+k) off)=some v:=load_one ha (gN.trans hg) hn
theorem ld1N0 (ha:aggT P t=some false) (hg:nth ls 0=some (.cells cs ty)) (hn:nth cs off=some v):loadA P ⟨B++ls,es⟩ g t (.ptr B.length off)=some v:=load_one ha (gN0.trans hg) hn
theorem ldaN (ha:aggT P t=some true) (hs:szOf P t=some n) (hg:nth ls k=some (.cells cs ty)) (hl:off+n≤cs.length):loadA P ⟨B++ls,es⟩ g t (.ptr (B.length+k) off)=some (.agg ((cs.drop off).take n)):=load_agg ha hs (gN.trans hg) hl
theorem ldaN0 (ha:aggT P t=some true) (hs:szOf P t=some n) (hg:nth ls 0=some (.cells cs ty)) (hl:off+n≤cs.length):loadA P ⟨B++ls,es⟩ g t (.ptr B.length off)=some (.agg ((cs.drop off).take n)):=load_agg ha hs (gN0.trans hg) hl
end
section
variable {P:Program} {t n:TypeId} {B ls:List Blk} {k off bm:Nat} {cs:List V} {ty e:TypeId} {xs ys:List V} {env:List V} {lk:List (Nat×Nat)} {df:List (V×List V)} {es:List (Nat×Nat)}
theorem lodB_own (ha:aggT P t=some false) (hlt:bm<B.length) (hb:nth B bm=some (.cells cs ty)) (hn:nth cs off=some (ownL n e xs)) :
  lodT P t env ⟨B++ls,es⟩ [] df (some (.ptr bm off))=some (.val (ownL n e xs),⟨env,⟨B.set bm (.cells (cs.set off (lkL n xs)) ty)++ls,es⟩,lckM bm off xs,df⟩):=by
 rw [lodT_own ha (show Hp.get ⟨B++ls,es⟩ bm=_ from (gB hlt).trans hb) hn]
 simp only [Hp.set,sB hlt]
theorem storB_own (hs:szOf P t=some 1) (hlt:bm<B.length) (ho:off<cs.length) (ht:(ownL n e ys).top=0) :
  storX P t ⟨B.set bm (.cells (cs.set off (lkL n xs)) ty)++ls,es⟩ (lckM bm off xs) df (some (ownL n e ys,env)) (some (.ptr bm off))=some (.skip,⟨env,⟨B.set bm (.cells (cs.set off (ownL n e ys)) ty)++ls,es⟩,lckM bm off xs,df⟩):=by
 have hl':bm<(B.set bm (.cells (cs.set off (lkL n xs)) ty)).length:=by rw [List.length_set];exact hlt
 rw [storX_ptr hs (show Hp.get ⟨_++ls,es⟩ bm=some (.cells (cs.set off (lkL n xs)) ty) from (gB hl').trans (by simp [nth_eq,hlt])) okC_own (by rw [laid_own];rfl) (by rw [List.length_set];omega) (mayA_own ho),edge0 (by rw [ht];omega)]
 simp only [Hp.set,sB hl',List.set_set,laid_own,Vm.storeCells]
end
def noP:Nat→Bool:=fun _=>false
structure Part where
 null:Bool
 first:Nat→Bool
 last:Nat→Bool
def partC (p:Part):List V:=.bool p.null::(pv 19 p.first++pv 19 p.last)
theorem partC_len {p:Part}:(partC p).length=39:=by simp [partC,pv_len]
theorem pv_clr {m:Nat} {p:Nat→Bool}:(pv m p).map clr=pv m p:=by
 simp only [pv,List.map_map];rfl
theorem partC_clr {p:Part}:(partC p).map clr=partC p:=by simp [partC,pv_clr,clr_bool]
theorem tops_app:∀ {xs ys:List V},tops xs=0→tops ys=0→tops (xs++ys)=0
 | [],_,_,h=>h
 | x::xs,ys,h1,h2=>by
  simp only [tops,List.cons_append,Nat.max_eq_zero_iff] at h1 ⊢
  exact ⟨h1.1,tops_app h1.2 h2⟩
theorem pv_tops {m:Nat} {p:Nat→Bool}:tops (pv m p)=0:=by
 unfold pv
 induction List.range m with
 | nil=>rfl
 | cons x xs ih=>simp only [List.map_cons,tops,V.top,ih];rfl
theorem partC_tops {p:Part}:tops (partC p)=0:=by
 simp only [partC,tops,V.top,tops_app pv_tops pv_tops];rfl
theorem z62:zeroA Tryz.prog 62=some (.agg (partC ⟨false,noP,noP⟩)):=by kernel_rfl
theorem bld60 {env:List V}:buildA Tryz.prog 60 #[] env=some (.agg (pv 19 noP)):=by kernel_rfl
theorem pv_unl {m:Nat} {p:Nat→Bool}:(pv m p).all (fun c=>!(locked c))=true:=by
 simp [pv,locked]
theorem partC_unl {p:Part}:(partC p).all (fun c=>!(locked c))=true:=by
 simp only [partC,List.all_cons,List.all_append,pv_unl];rfl
theorem stc_one {x:V} {cs:List V} {k:Nat}:Vm.storeCells cs k [x]=cs.set k x:=rfl
theorem ldP {B ls:List Blk} {k:Nat} {p:Part} {es:List (Nat×Nat)} {g:Nat→Nat→Option V} (hg:nth ls k=some (.cells (partC p) 62)):loadA Tryz.prog ⟨B++ls,es⟩ g 62 (.ptr (B.length+k) 0)=some (.agg (partC p)):=by
 rw [ldaN ag62 sz62 hg (by rw [partC_len];decide)]
 rw [List.drop_zero,← partC_len (p:=p),List.take_length]
theorem stP {B ls:List Blk} {k:Nat} {p q:Part} {env:List V} {lk:List (Nat×Nat)} {df:List (V×List V)} {es:List (Nat×Nat)} (hg:nth ls k=some (.cells (partC q) 62)):storX Tryz.prog 62 ⟨B++ls,es⟩ lk df (some (.agg (partC p),env)) (some (.ptr (B.length+k) 0))=some (.skip,⟨env,⟨B++ls.set k (.cells (partC p) 62),es⟩,lk,df⟩):=by
 rw [storN (k:=k) (v:=.agg (partC p)) sz62 hg rfl (by simp [V.laid,partC_len]) (by rw [partC_len];decide) partC_unl (by simp [V.top,partC_tops])]
 simp only [V.laid,partC_clr]
 rw [stc_all (by rw [partC_len,partC_len])]
structure Mk where
 sets:List (Int×Int×Int×Int)
 rules:List Int
 next:List (Nat→Bool)
def setOf (s0 s1 s2 s3:Int):V:=.agg [.int .u64 s0,.int .u64 s1,.int .u64 s2,.int .u64 s3]
def setV (q:Int×Int×Int×Int):V:=setOf q.1 q.2.1 q.2.2.1 q.2.2.2
def Mk.setsV (m:Mk):List V:=m.sets.map setV
def Mk.rulesV (m:Mk):List V:=m.rules.map (.int .i64)
theorem tops_mp {α:Type} {h:α→V} (hh:∀ a,(h a).top=0):∀ (l:List α),tops (l.map h)=0
 | []=>rfl
 | a::l=>by simp [tops,hh a,tops_mp hh l]
theorem top_own {n:Nat} {e:TypeId} {xs:List V} (h:tops xs=0):(ownL n e xs).top=0:=by
 cases xs with
 | nil=>rfl
 | cons x xs=>simpa [ownL,V.top] using h
def MK (n0:Nat) (H:Hp) (bm:Nat) (m:Mk) (i:Option Nat):Prop :=
 ∃ c,H.get bm=some (.cells [ownL 4 41 m.setsV,ownL 1 3 m.rulesV,c] 58)∧UL H 19 60 c i (m.next.map (pv 19))∧∀ j,i=some j→n0≤j→bm<j∧(bm,j+1)∈H.edges
def NewB (n0:Nat) (i i':Option Nat):Prop:=i'=i∨i=none∧∃ j,i'=some j∧n0≤j
theorem MK.start {bs:List Blk} {es:List (Nat×Nat)} {n0 bm:Nat} {m:Mk} {i:Option Nat} (h:MK n0 ⟨bs,es⟩ bm m i):MK bs.length ⟨bs,[]⟩ bm m i:=by
 obtain ⟨c,h1,h2,_⟩:=h
 refine ⟨c,h1,h2,fun j hj hn=>?_⟩
 subst hj
 exact absurd h2.lt (by simpa using hn)
theorem MK.finish {bs:List Blk} {es:List (Nat×Nat)} {n0 bm t:Nat} {m m':Mk} {i i':Option Nat} {H:Hp} (h:MK n0 ⟨bs,es⟩ bm m i) (_hn:n0≤bs.length) (hnew:NewB bs.length i i') (h1:MK bs.length H bm m' i'):MK n0 (finishH bs.length es t H) bm m' i':=by
 obtain ⟨c,g1,g2,g3⟩:=h
 obtain ⟨c',k1,k2,k3⟩:=h1
 have hlt:bm<bs.length:=get_lt g1
 refine ⟨c',(finishH_get hlt).trans k1,k2.frame fun j hj=>?_,fun j hj hn=>?_⟩
 ·by_cases hjn:j<bs.length
  ·exact finishH_get hjn
  ·exact finishH_keep (k3 j hj (by omega)).2 hlt (by omega) _
 ·by_cases hjn:j<bs.length
  ·have:i=some j:=by
    rcases hnew with rfl|⟨_,j',h1,h2⟩
    ·exact hj
    ·rw [hj] at h1;cases h1;omega
   have:=g3 j this hn
   refine ⟨this.1,?_⟩
   unfold finishH
   obtain ⟨b,e⟩:=H
   simp only
   split<;>exact List.mem_append_right _ this.2
  ·have:=k3 j hj (by omega)
   refine ⟨this.1,?_⟩
   unfold finishH
   obtain ⟨b,e⟩:=H
   simp only
   split
   ·refine List.mem_append_left _ (List.mem_filter.2 ⟨this.2,?_⟩)
    exact Nat.ble_eq_true_of_le (show bm+1≤bs.length by omega)
   ·exact List.mem_append_left _ this.2
theorem frm_finish {bs:List Blk} {es:List (Nat×Nat)} {t:Nat} {H:Hp} {S:Nat→Prop} (h:Frm ⟨bs,[]⟩ H S):Frm ⟨bs,es⟩ (finishH bs.length es t H) S :=
 ⟨finishH_len h.len,fun d hd hn=>(finishH_get hd).trans (h.get d hd hn)⟩
theorem stc_app:∀ {pre xs ys:List V},ys.length=xs.length→Vm.storeCells (pre++ys) pre.length xs=pre++xs:=by
 intro pre xs ys h
 apply List.ext_getElem?
 intro i
 rw [stc_get]
 by_cases h1:i<pre.length
 ·rw [if_neg (by omega),List.getElem?_append_left h1,List.getElem?_append_left h1]
 ·by_cases h2:i<pre.length+xs.length
  ·rw [if_pos ⟨by omega,h2,by rw [List.length_append];omega⟩,List.getElem?_append_right (by omega)]
  ·rw [if_neg (by omega),List.getElem?_eq_none (by rw [List.length_append];omega),List.getElem?_eq_none (by rw [List.length_append];omega)]
theorem stc_last {p:Part} {l:Nat→Bool}:Vm.storeCells (partC p) 20 (pv 19 l)=partC ⟨p.null,p.first,l⟩:=by
 have h:=stc_app (pre:=.bool p.null::pv 19 p.first) (xs:=pv 19 l) (ys:=pv 19 p.last) (by rw [pv_len,pv_len])
 rw [show (V.bool p.null::pv 19 p.first).length=20 by simp [pv_len]] at h
 exact h
theorem pv_top {m:Nat} {p:Nat→Bool}:(V.agg (pv m p)).top=0:=by simp [V.top,pv_tops]
theorem part_last {p:Part}:((partC p).drop 20).take 19=pv 19 p.last:=by
 have h:(partC p).drop 20=pv 19 p.last:=by
  have:=List.drop_left (l₁:=V.bool p.null::pv 19 p.first) (l₂:=pv 19 p.last)
  rwa [show (V.bool p.null::pv 19 p.first).length=20 by simp [pv_len]] at this
 rw [h]
 exact List.take_of_length_le (by rw [pv_len];decide)
end Go.Proofs.YtkbdcmehffmfpaaGreatDoor
namespace Go.Proofs.YtkbdcmehffmfpaaGreatDoor
set_option maxRecDepth 100000
open Go Go.Vm
variable {gl:Gl}
def leafM (op:Int) (set:Int×Int×Int×Int) (r:Int) (m:Mk):Part×Mk :=
 if op=1 then (⟨true,noP,noP⟩,m) else (⟨false,addP noP m.sets.length,addP noP m.sets.length⟩,⟨m.sets++[set],m.rules++[r],m.next++[noP]⟩)
theorem sz45:szOf Tryz.prog 45=some 10:=by kernel_rfl
theorem ag45:aggT Tryz.prog 45=some true:=by kernel_rfl
theorem fo45_0:fieldOff Tryz.prog 45 0=some 0:=by kernel_rfl
theorem fo45_2:fieldOff Tryz.prog 45 2=some 2:=by kernel_rfl
theorem fo62_0:fieldOff Tryz.prog 62 0=some 0:=by kernel_rfl
theorem fo62_1:fieldOff Tryz.prog 62 1=some 1:=by kernel_rfl
theorem fo62_2:fieldOff Tryz.prog 62 2=some 20:=by kernel_rfl
theorem fo58_0:fieldOff Tryz.prog 58 0=some 0:=by kernel_rfl
theorem fo58_1:fieldOff Tryz.prog 58 1=some 1:=by kernel_rfl
theorem ag4:aggT Tryz.prog 4=some false:=by kernel_rfl
theorem sz4:szOf Tryz.prog 4=some 1:=by kernel_rfl
theorem sz29:szOf Tryz.prog 29=some 1:=by kernel_rfl
theorem ag29:aggT Tryz.prog 29=some false:=by kernel_rfl
theorem ag28:aggT Tryz.prog 28=some false:=by kernel_rfl
theorem sz28:szOf Tryz.prog 28=some 1:=by kernel_rfl
theorem ag41:aggT Tryz.prog 41=some true:=by kernel_rfl
theorem sz41:szOf Tryz.prog 41=some 4:=by kernel_rfl
theorem r28:RowT Tryz.prog 28 41 4 32:=⟨by kernel_rfl,by kernel_rfl,by kernel_rfl,by decide,by kernel_rfl,by kernel_rfl,by kernel_rfl⟩
theorem leaf_run (hg:GW gl) {n n0:Nat} {H:Hp} {bm:Nat} {m:Mk} {i:Option Nat} {op pl s0 s1 s2 s3 mn mx r:Int} {text:List Nat} {nl:Bool} {args:List E}
  (hm:MK n0 H bm m i) (hn0:n0≤H.blks.length) (hs:m.sets.length<1216) (hr:m.rules.length<1216) (hx:m.next.length<1216) :
  ∃ H' i',callA Tryz.prog gl (n+2) 35 [.ptr bm 0,enc (.mk op pl s0 s1 s2 s3 text mn mx nl args),.int .i64 r] H=some (.ret (.agg (partC (leafM op (s0,s1,s2,s3) r m).1)),H')∧MK n0 H' bm (leafM op (s0,s1,s2,s3) r m).2 i'∧NewB H.blks.length i i'∧Frm H H' (fun d=>d=bm∨i=some d):=by
 obtain ⟨bs,es⟩:=H
 have hm0:=hm.start
 suffices hmain:(go ⟨Tryz.prog,gl,callA Tryz.prog gl (n+1),uqw⟩ (n+1) (Fx Tryz.prog Tryz.f35.results.toList fun w H1=>w=.agg (partC (leafM op (s0,s1,s2,s3) r m).1)∧∃ i',MK bs.length H1 bm (leafM op (s0,s1,s2,s3) r m).2 i'∧NewB bs.length i i'∧Frm ⟨bs,[]⟩ H1 (fun d=>d=bm∨i=some d)) [.c (Tryz.f35.body.getD .skip)] .normal ⟨[.ptr bm 0,enc (.mk op pl s0 s1 s2 s3 text mn mx nl args),.int .i64 r]++List.replicate 56 (.tup []),⟨bs,[]⟩,[],[]⟩) by
  obtain ⟨w,H1,h0,rfl,i',h1,h2,h3⟩:=go_intro' (gl:=gl) (f:=35) (bs:=bs) (es:=es) (args:=[.ptr bm 0,enc (.mk op pl s0 s1 s2 s3 text mn mx nl args),.int .i64 r]) (n:=n+1) (hg.hk _ _ (by decide)) (fun H=>hg.hk2 _ _ _ _) Tryz.func35 rfl (by rw [hg.uq];exact hmain)
  exact ⟨_,i',h0,hm.finish hn0 h2 h1,h2,frm_finish h3⟩
 obtain ⟨c,hc,hu,hed⟩:=hm0
 have hlt:bm<bs.length:=get_lt hc
 obtain ⟨S,hS⟩:∃ S,S=m.setsV:=⟨_,rfl⟩
 obtain ⟨R,hR⟩:∃ R,R=m.rulesV:=⟨_,rfl⟩
 have hSl:S.length=m.sets.length:=by rw [hS,Mk.setsV,List.length_map]
 have hRl:R.length=m.rules.length:=by rw [hR,Mk.rulesV,List.length_map]
 have hSt:tops S=0:=by rw [hS];exact tops_mp (fun _=>rfl) _
 have hRt:tops R=0:=by rw [hR];exact tops_mp (fun _=>rfl) _
 rw [← hS,← hR] at hc
 have hbox:okC (enc (.mk op pl s0 s1 s2 s3 text mn mx nl args))=true:=rfl
 simp only [Tryz.f35,Option.getD_some,go_seq]
 refine go_reg' (tk:=[]) (by kernel_rfl) ?_
 simp only [enc] at hbox ⊢
 simp only [go_os,go_os_nil,go_seq,op_box,op_alloc_z,take_tmp,takeV_agg,opQ_val,putA,clr_int,clr_str,List.map_cons,List.map_nil,push_mk,List.length_append,List.length_cons,List.length_nil,Nat.zero_add,List.append_assoc,List.cons_append,List.nil_append,nth_cons0,nth_cons,List.set_cons_zero,List.set_cons_succ,boxQ_some hbox,z62,alcQ_some (show okC (V.agg (partC ⟨false,noP,noP⟩))=true from rfl),V.laid,V.cells,clr_argV,List.replicate]
 refine go_reg' (tk:=[]) (by kernel_rfl) ?_
 simp only [go_os,go_os_nil,go_seq,op_alloc_z,opQ_val,putA,push_mk,List.length_append,List.length_cons,List.length_nil,Nat.zero_add,Nat.reduceAdd,List.append_assoc,List.cons_append,List.nil_append,List.set_cons_zero,List.set_cons_succ,z62,alcQ_some (show okC (V.agg (partC ⟨false,noP,noP⟩))=true from rfl),V.cells]
 generalize hX:Blk.cells [V.int IntKind.i64 op,V.int IntKind.i64 pl,V.int IntKind.u64 s0,V.int IntKind.u64 s1,V.int IntKind.u64 s2,V.int IntKind.u64 s3,V.str text,V.int IntKind.i64 mn,V.int IntKind.i64 mx,argV nl (encs args)] 45=X
 refine go_reg' (tk:=[]) (by kernel_rfl) ?_
 have hl1:∀ x y,loadA Tryz.prog ⟨bs++[X,x,y],[]⟩ gl.g 3 (.ptr bs.length 0)=some (.int .i64 op):=fun x y=>load_one ag3 (by subst hX;exact gN0) rfl
 simp only [go_os,go_os_nil,go_seq,op_load0,op_store_x,op_binOp,op_fieldAddr2,peek,take_tmp,ofVal,takeV_bool,rdQ_some,opQ_val,putA,clr_int,clr_ptr,Option.bind_some,Option.map_some,faddrO_some,faddrV,Nat.add_zero,nth_cons0,nth_cons,List.set_cons_zero,List.set_cons_succ,fo45_0,fo62_0,hl1,bin_eql]
 rw [storN (k:=2) (cs:=partC ⟨false,noP,noP⟩) (ty:=62) sz4 rfl rfl rfl (by rw [partC_len];decide) partC_unl rfl]
 simp only [opQ_skip,putA,V.laid,stc_one,List.set_cons_succ,List.set_cons_zero]
 rw [show (partC ⟨false,noP,noP⟩).set 0 (.bool (op == 1))=partC ⟨op == 1,noP,noP⟩ from rfl]
 refine go_reg' (tk:=[]) (by kernel_rfl) ?_
 have hl2:∀ x y b p q,loadA Tryz.prog ⟨bs++[x,y,Blk.cells (partC ⟨b,p,q⟩) 62],[]⟩ gl.g 4 (.ptr (bs.length+2) 0)=some (.bool b):=fun x y b p q=>ld1N (k:=2) ag4 rfl rfl
 simp only [go_os,go_os_nil,go_seq,go_skip,op_load0,op_unOp,op_fieldAddr2,peek,rdQ_some,opQ_val,putA,clr_bool,clr_ptr,Option.bind_some,Option.map_some,faddrO_some,faddrV,Nat.add_zero,go_cond',condQ_b,nth_cons0,nth_cons,List.set_cons_zero,List.set_cons_succ,fo62_0,hl2,unA]
 have hLP:∀ x y p es,loadA Tryz.prog ⟨bs++[x,y,.cells (partC p) 62],es⟩ gl.g 62 (.ptr (bs.length+2) 0)=some (.agg (partC p)):=fun x y p es=>ldP (k:=2) rfl
 by_cases hop:op=1
 ·subst hop
  refine .inr ⟨by decide,?_⟩
  refine go_reg' (tk:=[]) (by kernel_rfl) ?_
  simp only [go_os,go_os_nil,op_load0,op_store_x,peek,take_tmp,takeV_agg,rdQ_some,opQ_val,putA,clr_agg,clr_ptr,Option.bind_some,Option.map_some,nth_cons0,nth_cons,List.set_cons_zero,List.set_cons_succ,hLP]
  rw [stP (k:=1) (q:=⟨false,noP,noP⟩) rfl]
  simp only [opQ_skip,putA,go_ret,go_nil,Fx,List.set_cons_succ,List.set_cons_zero]
  refine ⟨trivial,[.agg (partC ⟨true,noP,noP⟩)],?_,rfl,i,?_,.inl rfl,?_⟩
  ·simp only [resultsA,nth_cons0,nth_cons]
   rw [ldP (k:=1) (p:=⟨1 == 1,noP,noP⟩) rfl]
   simp [clr]
  ·refine ⟨c,(gB hlt).trans (by have h:=hc;rw [hS,hR] at h;exact h),hu.frame fun j hj=>gB (by subst hj;exact hu.lt),fun j hj hn=>?_⟩
   subst hj
   exact absurd hu.lt (by simpa using hn)
  ·exact ⟨by simp,fun d hd _=>gB hd⟩
 ·refine .inl ⟨by simp [hop],?_⟩
  have hob:(op == 1)=false:=by simp [hop]
  simp only [hob]
  refine go_reg' (tk:=[]) (by kernel_rfl) ?_
  have hl3:∀ ls es,loadA Tryz.prog ⟨bs++ls,es⟩ gl.g 28 (.ptr bm 0)=some (ownL 4 41 S):=fun ls es=>load_one ag28 (show Hp.get ⟨bs++ls,es⟩ bm=_ from (gB hlt).trans hc) rfl
  simp only [go_os,go_os_nil,go_seq,op_move0,op_load0,op_assign,op_nilCheck,op_fieldAddr2,op_len,peek,take_tmp,takeV_int,rdQ_some,tkQ_some,opQ_val,putA,clr_ptr,clr_own2,Option.bind_some,Option.map_some,derefA,faddrO_some,faddrV,Nat.add_zero,nth_cons0,nth_cons,List.set_cons_zero,List.set_cons_succ,fo58_0,hl3,lenA_own r28.u,hSl]
  refine go_reg' (tk:=[]) (by kernel_rfl) ?_
  have hadd:∀ (ls:List Blk) (k off:Nat) (pre post:List V) (p:Nat→Bool),nth ls k=some (.cells (pre++pv 19 p++post) 62)→pre.length=off→Cx.callF ⟨Tryz.prog,gl.g,callA Tryz.prog gl (n+1),uqw⟩ 18 [.ptr (bs.length+k) off,.int .i64 (m.sets.length:Int)] ⟨bs++ls,[]⟩=some (.val (.tup []),⟨bs++ls.set k (.cells (pre++pv 19 (addP p m.sets.length)++post) 62),[]⟩):=fun ls k off pre post p h1 h2=>by
   have:=add_run hg (n:=n) (bs:=bs++ls) (es:=[]) (b:=bs.length+k) (gN.trans h1) h2 hs
   rw [sN] at this
   exact callF_run Tryz.func18 rfl this
  have hA:=fun x y=>hadd [x,y,.cells (partC ⟨false,noP,noP⟩) 62] 2 1 [.bool false] (pv 19 noP) noP rfl rfl
  have hB:=fun x y=>hadd [x,y,.cells (partC ⟨false,addP noP m.sets.length,noP⟩) 62] 2 20 (.bool false::pv 19 (addP noP m.sets.length)) [] noP (by simp [partC,nth]) (by simp [pv_len])
  simp only [go_os,go_os_nil,go_seq,op_move0,op_fieldAddr2,op_call,peeks,fV_eq,peek,rdQ_some,opQ_val,putA,clr_int,clr_ptr,Option.bind_some,faddrO_some,faddrV,callG_some,callQ,List.map_cons,List.map_nil,Nat.zero_add,List.cons_append,List.nil_append,nth_cons0,nth_cons,List.set_cons_zero,List.set_cons_succ,fo62_1,hA]
  rw [show Blk.cells (V.bool false::(pv 19 (addP noP m.sets.length)++pv 19 noP)) 62=.cells (partC ⟨false,addP noP m.sets.length,noP⟩) 62 from rfl]
  refine go_reg' (tk:=[]) (by kernel_rfl) ?_
  simp only [go_os,go_os_nil,go_seq,op_move0,op_fieldAddr2,op_call,peeks,fV_eq,peek,rdQ_some,opQ_val,putA,clr_int,clr_ptr,Option.bind_some,faddrO_some,faddrV,callG_some,callQ,List.map_cons,List.map_nil,Nat.zero_add,List.cons_append,nth_cons0,nth_cons,List.set_cons_zero,List.set_cons_succ,fo62_2,hB,List.append_nil]
  rw [show Blk.cells (V.bool false::(pv 19 (addP noP m.sets.length)++pv 19 (addP noP m.sets.length))) 62=.cells (partC ⟨false,addP noP m.sets.length,addP noP m.sets.length⟩) 62 from rfl]
  generalize hY:Blk.cells (partC ⟨false,noP,noP⟩) 62=Y
  generalize hZ:Blk.cells (partC ⟨false,addP noP m.sets.length,addP noP m.sets.length⟩) 62=Z
  refine go_draw' (tk:=[31]) (by kernel_rfl) (by kernel_rfl) ?_
  have hbm:bs.length≠bm:=by omega
  have hl4:∀ B ls es,loadA Tryz.prog ⟨B++X::ls,es⟩ gl.g 41 (.ptr B.length 2)=some (setOf s0 s1 s2 s3):=fun B ls es=>by
   rw [ldaN0 (cs:=[V.int IntKind.i64 op,V.int IntKind.i64 pl,V.int IntKind.u64 s0,V.int IntKind.u64 s1,V.int IntKind.u64 s2,V.int IntKind.u64 s3,V.str text,V.int IntKind.i64 mn,V.int IntKind.i64 mx,argV nl (encs args)]) (ty:=45) ag41 sz41 (by rw [hX];rfl) (by simp)]
   rfl
  have hl4':∀ (b:Blk) ls es,loadA Tryz.prog ⟨bs.set bm b++X::ls,es⟩ gl.g 41 (.ptr bs.length 2)=some (setOf s0 s1 s2 s3):=fun b ls es=>by
   have:=hl4 (bs.set bm b) ls es
   rwa [List.length_set] at this
  have hlod:∀ env,lodT Tryz.prog 28 env ⟨bs++[X,Y,Z],[]⟩ [] [] (some (.ptr bm 0))=some (.val (ownL 4 41 S),⟨env,⟨bs.set bm (.cells [lkL 4 S,ownL 1 3 R,c] 58)++[X,Y,Z],[]⟩,lckM bm 0 S,[]⟩):=fun env=>lodB_own (off:=0) ag28 hlt hc rfl
  have hbsl:=r28.bsl (v:=setOf s0 s1 s2 s3) rfl rfl
  have hroom:∀ {k b:Nat},k<1216→b≤152→roomA (k+1) b=true:=fun {k b} h h'=>roomA_of (by have:=Nat.mul_le_mul (show k+1≤1216 by omega) h';omega) (by omega)
  have happ:∀ H,appendA Tryz.prog H 28 (ownL 4 41 S) (.sl 4 [setOf s0 s1 s2 s3] .no)=some (ownL 4 41 (S++[setOf s0 s1 s2 s3])):=fun H=>append_own r28 (by simp) (by rw [hSl];exact hroom hs (by decide))
  simp only [go_on,go_on_nil,go_seq,op_move1,op_load1,op_loadt1,op_store_x,op_nilCheck,op_fieldAddr2,op_bsl1,ne_eq,Nat.reduceEqDiff,not_false_eq_true,peek,take_tmp,takeV_own,rdQ_some,opQ_val,putA,clr_ptr,clr_sl,Option.bind_some,Option.map_some,derefA,faddrO_some,faddrV,true_and,Nat.zero_add,Nat.add_zero,ldChk,if_true,nth_cons0,nth_cons,List.set_cons_zero,List.set_cons_succ,fo58_0,fo45_2,ag28,ag41,hlod,hl4',lckM_ne hbm,show clr (setOf s0 s1 s2 s3)=setOf s0 s1 s2 s3 from rfl,hbsl,appQ,happ,fo58_0,op_append (cx:=⟨Tryz.prog,gl.g,callA Tryz.prog gl (n+1),uqw⟩) (show uqT Tryz.prog uqw 28=false by kernel_rfl)]
  have hst:∀ env,storX Tryz.prog 28 ⟨bs.set bm (.cells [lkL 4 S,ownL 1 3 R,c] 58)++[X,Y,Z],[]⟩ (lckM bm 0 S) [] (some (ownL 4 41 (S++[setOf s0 s1 s2 s3]),env)) (some (.ptr bm 0))=some (.skip,⟨env,⟨bs.set bm (.cells [ownL 4 41 (S++[setOf s0 s1 s2 s3]),ownL 1 3 R,c] 58)++[X,Y,Z],[]⟩,lckM bm 0 S,[]⟩):=fun env =>
   storB_own (off:=0) (cs:=[ownL 4 41 S,ownL 1 3 R,c]) sz28 hlt (by simp) (top_own (tops_app hSt rfl))
  rw [hst]
  simp only [opQ_skip,putA]
  refine go_reg' (tk:=[42]) (by kernel_rfl) ?_
  generalize hS':S++[setOf s0 s1 s2 s3]=S'
  obtain ⟨B,hB1⟩:∃ B,B=bs.set bm (.cells [ownL 4 41 S',ownL 1 3 R,c] 58):=⟨_,rfl⟩
  have hBl:B.length=bs.length:=by rw [hB1,List.length_set]
  rw [← hB1]
  have hltB:bm<B.length:=by omega
  have hbB:nth B bm=some (.cells [ownL 4 41 S',ownL 1 3 R,c] 58):=by rw [hB1];simp [nth_eq,hlt]
  have hbsl2:=r29.bsl (v:=.int .i64 r) rfl rfl
  have happ2:∀ H,appendA Tryz.prog H 29 (ownL 1 3 R) (.sl 1 [.int .i64 r] .no)=some (ownL 1 3 (R++[.int .i64 r])):=fun H=>append_own r29 (by simp) (by rw [hRl];exact hroom hr (by decide))
  have hlod2:∀ env,lodT Tryz.prog 29 env ⟨B++[X,Y,Z],[]⟩ [] [] (some (.ptr bm 1))=some (.val (ownL 1 3 R),⟨env,⟨B.set bm (.cells [ownL 4 41 S',lkL 1 R,c] 58)++[X,Y,Z],[]⟩,lckM bm 1 R,[]⟩):=fun env=>lodB_own (off:=1) ag29 hltB hbB rfl
  have hst2:∀ env,storX Tryz.prog 29 ⟨B.set bm (.cells [ownL 4 41 S',lkL 1 R,c] 58)++[X,Y,Z],[]⟩ (lckM bm 1 R) [] (some (ownL 1 3 (R++[.int .i64 r]),env)) (some (.ptr bm 1))=some (.skip,⟨env,⟨B.set bm (.cells [ownL 4 41 S',ownL 1 3 (R++[.int .i64 r]),c] 58)++[X,Y,Z],[]⟩,lckM bm 1 R,[]⟩):=fun env =>
   storB_own (off:=1) (cs:=[ownL 4 41 S',ownL 1 3 R,c]) sz29 hltB (by simp) (top_own (tops_app hRt rfl))
  simp only [go_os,go_os_nil,op_move1,op_loadt1,op_store_x,op_nilCheck,op_fieldAddr2,op_bsl1,ne_eq,Nat.reduceEqDiff,not_false_eq_true,peek,take_tmp,takeV_own,rdQ_some,opQ_val,opQ_skip,putA,clr_int,clr_ptr,clr_sl,Option.bind_some,derefA,faddrO_some,faddrV,Nat.zero_add,if_true,nth_cons0,nth_cons,List.set_cons_zero,List.set_cons_succ,fo58_1,hlod2,hbsl2,appQ,happ2,hst2,op_append (cx:=⟨Tryz.prog,gl.g,callA Tryz.prog gl (n+1),uqw⟩) (show uqT Tryz.prog uqw 29=false by kernel_rfl)]
  generalize hR':R++[V.int .i64 r]=R'
  have hBB:B.set bm (.cells [ownL 4 41 S',ownL 1 3 R',c] 58)=bs.set bm (.cells [ownL 4 41 S',ownL 1 3 R',c] 58):=by rw [hB1,List.set_set]
  rw [hBB]
  refine go_reg' (tk:=[52]) (by kernel_rfl) ?_
  obtain ⟨cm,hcm⟩:∃ cm,cm=[ownL 4 41 S',ownL 1 3 R',c]:=⟨_,rfl⟩
  rw [← hcm]
  obtain ⟨B2,hB2⟩:∃ B2,B2=bs.set bm (.cells cm 58):=⟨_,rfl⟩
  have hBl2:B2.length=bs.length:=by rw [hB2,List.length_set]
  have hbB2:nth B2 bm=some (.cells cm 58):=by rw [hB2];simp [nth_eq,hlt]
  have hkB2:∀ d,d≠bm→nth B2 d=nth bs d:=fun d hd=>by rw [hB2,nth_eq,nth_eq,List.getElem?_set_ne (Ne.symm hd)]
  rw [← hB2,← hBl2]
  have hlt2:bm<B2.length:=by omega
  have hcu:c=.snil∨∃ j v l,c=.ulr j v l:=by
   cases i with
   | none=>exact .inl hu.1
   | some j=>obtain ⟨v,h,_⟩:=hu;exact .inr ⟨_,_,_,h⟩
  have hgB2:Hp.get ⟨B2++[X,Y,Z],[]⟩ bm=some (.cells cm 58):=(gB hlt2).trans hbB2
  have hlod3:∀ env,lodT Tryz.prog 56 env ⟨B2++[X,Y,Z],[]⟩ [] [] (some (.ptr bm 2))=some (.val c,⟨env,⟨B2++[X,Y,Z],[]⟩,[],[]⟩):=fun env=>lodT_ul ag56 hgB2 (by rw [hcm];rfl) hcu
  have hbsl3:=r56.bsl (v:=.agg (pv 19 noP)) rfl pv_len
  have hcc:clr c=c:=by rcases hcu with rfl|⟨j,v,l,rfl⟩<;>rfl
  have hu3:UL ⟨B2++[X,Y,Z],[]⟩ 19 60 c i (m.next.map (pv 19)):=hu.frame fun j hj=>by
   subst hj
   have hjl:=hu.lt
   have hjb:j≠bm:=fun e=>UL_nd hu hc (by rw [e])
   exact (gB (by rw [hBl2];exact hjl)).trans (hkB2 j hjb)
  have happ3:=fun env=>r56.app (env:=env) (lk:=[]) (df:=[]) (ys:=[.agg (pv 19 noP)]) (o:=.no) (by simp) hu3 (by rw [List.length_map];exact hroom hx (by decide))
  have hLD:∀ ls es p,nth ls 2=some (.cells (partC p) 62)→loadA Tryz.prog ⟨B2++ls,es⟩ gl.g 62 (.ptr (B2.length+2) 0)=some (.agg (partC p)):=fun ls es p h=>ldP h
  simp only [go_os,op_move1,op_loadt1,op_build,op_nilCheck,op_fieldAddr2,op_bsl1,ne_eq,Nat.reduceEqDiff,not_false_eq_true,peek,rdQ_some,opQ_val,putA,clr_agg,clr_ptr,clr_sl,Option.bind_some,derefA,faddrO_some,faddrV,push_mk,List.length_append,List.length_cons,List.length_nil,Nat.zero_add,Nat.reduceAdd,List.append_assoc,List.cons_append,List.nil_append,nth_cons0,nth_cons,List.set_cons_zero,List.set_cons_succ,fo58_2,hlod3,bld60,hbsl3,hcc,op_append_u (cx:=⟨Tryz.prog,gl.g,callA Tryz.prog gl (n+1),uqw⟩) (show uqT Tryz.prog uqw 56=true by kernel_rfl),happ3]
  have hmay:∀ lk,mayA lk bm 2 1 (cm.drop 2)=true:=fun lk=>by
   rw [hcm]
   rcases hcu with rfl|⟨j,v,l,rfl⟩<;>simp [mayA,locked]
  have hcm3:∀ x,Vm.storeCells cm 2 [x]=[ownL 4 41 S',ownL 1 3 R',x]:=fun x=>by rw [hcm];rfl
  have hcl:2+1≤cm.length:=by rw [hcm];simp
  have hed2:∀ l b v,∃ es1,Hp.edge ⟨l,[]⟩ b v=⟨l,es1⟩:=fun l b v=>by unfold Hp.edge;split<;>exact ⟨_,rfl⟩
  have hSR:∀ x,[ownL 4 41 S',ownL 1 3 R',x]=[ownL 4 41 (leafM op (s0,s1,s2,s3) r m).2.setsV,ownL 1 3 (leafM op (s0,s1,s2,s3) r m).2.rulesV,x]:=fun x=>by
   rw [leafM,if_neg hop,← hS',← hR',hS,hR]
   simp only [Mk.setsV,Mk.rulesV,List.map_append,List.map_cons,List.map_nil,setV]
  have hP:(leafM op (s0,s1,s2,s3) r m).1=⟨false,addP noP m.sets.length,addP noP m.sets.length⟩:=by rw [leafM,if_neg hop]
  have hN:(leafM op (s0,s1,s2,s3) r m).2.next=m.next++[noP]:=by rw [leafM,if_neg hop]
  cases i with
  | none =>
   obtain ⟨rfl,hnx⟩:=hu
   have hnx':m.next=[]:=by simpa using hnx
   have hst3:∀ env U,storX Tryz.prog 56 ⟨B2++[X,Y,Z,U],[]⟩ [] [] (some (.ulr (B2.length+3) 0 1,env)) (some (.ptr bm 2))=some (.skip,⟨env,⟨B2.set bm (.cells [ownL 4 41 S',ownL 1 3 R',.ulr (B2.length+3) 0 1] 58)++[X,Y,Z,U],[(bm,B2.length+4)]⟩,[],[]⟩):=fun env U=>by
    rw [storX_ptr (cs:=cm) (ty:=58) r56.st (show Hp.get ⟨B2++[X,Y,Z,U],[]⟩ bm=some (.cells cm 58) from (gB hlt2).trans hbB2) rfl rfl hcl (hmay _)]
    simp only [V.laid,hcm3,Hp.set,sB hlt2,Hp.edge,V.top]
    rw [if_neg (by omega)]
   simp only [go_os,go_os_nil,go_seq,op_store_x,op_nilCheck,op_fieldAddr2,peek,take_tmp,takeV_ulr,rdQ_some,opQ_val,opQ_skip,putA,clr_ptr,Option.bind_some,derefA,faddrO_some,faddrV,Nat.zero_add,nth_cons0,nth_cons,List.set_cons_zero,List.set_cons_succ,fo58_2,hst3]
   obtain ⟨B3,hB3⟩:∃ B3,B3=B2.set bm (.cells [ownL 4 41 S',ownL 1 3 R',.ulr (B2.length+3) 0 1] 58):=⟨_,rfl⟩
   have hBl3:B3.length=B2.length:=by rw [hB3,List.length_set]
   have hg3:nth B3 bm=some (.cells [ownL 4 41 S',ownL 1 3 R',.ulr (B2.length+3) 0 1] 58):=by rw [hB3];simp [nth_eq,hlt2]
   have hk3:∀ d,d≠bm→nth B3 d=nth bs d:=fun d hd=>by rw [hB3,nth_eq,List.getElem?_set_ne (Ne.symm hd),← nth_eq,hkB2 d hd]
   rw [← hB3,← hBl3]
   rw [← hBl3] at hg3
   refine go_reg' (tk:=[]) (by kernel_rfl) ?_
   have hL1:∀ U es,loadA Tryz.prog ⟨B3++[X,Y,Z,U],es⟩ gl.g 62 (.ptr (B3.length+2) 0)=some (.agg (partC ⟨false,addP noP m.sets.length,addP noP m.sets.length⟩)):=fun U es=>ldP (k:=2) (by rw [← hZ];rfl)
   simp only [go_os,go_os_nil,op_load0,op_store_x,peek,take_tmp,takeV_agg,rdQ_some,opQ_val,putA,clr_agg,clr_ptr,Option.bind_some,Option.map_some,nth_cons0,nth_cons,List.set_cons_zero,List.set_cons_succ,hL1]
   rw [stP (k:=1) (q:=⟨false,noP,noP⟩) (by rw [← hY];rfl)]
   simp only [opQ_skip,putA,go_ret,go_nil,Fx,List.set_cons_succ,List.set_cons_zero]
   refine ⟨trivial,[.agg (partC ⟨false,addP noP m.sets.length,addP noP m.sets.length⟩)],?_,by rw [hP];rfl,some (B3.length+3),⟨_,(gB (by omega)).trans (hg3.trans (by rw [hSR])),⟨0,by rw [hN,hnx'];rfl,(gN (k:=3)).trans (by rw [hN,hnx'];rfl)⟩,fun j hj hn=>?_⟩,.inr ⟨rfl,_,rfl,by omega⟩,?_⟩
   ·simp only [resultsA,nth_cons0,nth_cons]
    rw [ldP (k:=1) (p:=⟨false,addP noP m.sets.length,addP noP m.sets.length⟩) rfl]
    simp [clr]
   ·cases hj
    exact ⟨by omega,by rw [hBl3];simp⟩
   ·exact ⟨by simp only [List.length_append];omega,fun d hd hnd=>(gB (by rw [hBl3,hBl2];exact hd)).trans (hk3 d fun e=>hnd (.inl e))⟩
  | some j =>
   obtain ⟨v,rfl,hj⟩:=hu
   have hjl:j<bs.length:=get_lt hj
   have hjb:j≠bm:=by
    intro e
    subst e
    rw [hc] at hj
    cases hj
   have hj2:nth B2 j=some (.ul v 19 (m.next.map (pv 19)).flatten 60):=(hkB2 j hjb).trans hj
   dsimp only
   rw [edge0 (by simp [V.top,tops,pv_tops])]
   simp only [Hp.set,sB (show j<B2.length by omega),opQ_val,putA]
   obtain ⟨B3,hB3⟩:∃ B3,B3=B2.set j (.ul (v+1) 19 ((m.next.map (pv 19)).flatten++flatV [V.agg (pv 19 noP)]) 60):=⟨_,rfl⟩
   have hBl3:B3.length=B2.length:=by rw [hB3,List.length_set]
   have hb3:nth B3 bm=some (.cells cm 58):=by rw [hB3,nth_eq,List.getElem?_set_ne hjb,← nth_eq,hbB2]
   have hj3:nth B3 j=some (.ul (v+1) 19 ((m.next.map (pv 19)).flatten++flatV [V.agg (pv 19 noP)]) 60):=by rw [hB3,nth_eq,List.getElem?_set_self (by omega)]
   have hk3:∀ d,d≠bm→d≠j→nth B3 d=nth bs d:=fun d hd hd2=>by rw [hB3,nth_eq,List.getElem?_set_ne (Ne.symm hd2),← nth_eq,hkB2 d hd]
   rw [← hB3,← hBl3]
   have hlt3:bm<B3.length:=by omega
   obtain ⟨u,hu'⟩:∃ u,u=V.ulr j (v+1) ((m.next.map (pv 19)).length+1):=⟨_,rfl⟩
   obtain ⟨es1,hes⟩:=hed2 (B3.set bm (.cells [ownL 4 41 S',ownL 1 3 R',u] 58)++[X,Y,Z]) bm u
   have hst3:∀ env,storX Tryz.prog 56 ⟨B3++[X,Y,Z],[]⟩ [] [] (some (u,env)) (some (.ptr bm 2))=some (.skip,⟨env,⟨B3.set bm (.cells [ownL 4 41 S',ownL 1 3 R',u] 58)++[X,Y,Z],es1⟩,[],[]⟩):=fun env=>by
    rw [storX_ptr (cs:=cm) (ty:=58) r56.st (show Hp.get ⟨B3++[X,Y,Z],[]⟩ bm=some (.cells cm 58) from (gB hlt3).trans hb3) (by rw [hu'];rfl) (by rw [hu'];rfl) hcl (hmay _)]
    rw [show u.laid=[u] by rw [hu'];rfl]
    simp only [hcm3,Hp.set,sB hlt3]
    rw [hes]
   have htk:∀ env t,takeV env t (some u)=some (u,env):=fun _ _=>by rw [hu'];rfl
   rw [← hu']
   simp only [go_os,go_os_nil,go_seq,op_store_x,op_nilCheck,op_fieldAddr2,peek,take_tmp,rdQ_some,opQ_val,opQ_skip,putA,clr_ptr,Option.bind_some,derefA,faddrO_some,faddrV,Nat.zero_add,nth_cons0,nth_cons,List.set_cons_zero,List.set_cons_succ,fo58_2,htk,hst3]
   obtain ⟨B4,hB4⟩:∃ B4,B4=B3.set bm (.cells [ownL 4 41 S',ownL 1 3 R',u] 58):=⟨_,rfl⟩
   have hBl4:B4.length=B3.length:=by rw [hB4,List.length_set]
   have hg4:nth B4 bm=some (.cells [ownL 4 41 S',ownL 1 3 R',u] 58):=by rw [hB4,nth_eq,List.getElem?_set_self (by omega)]
   have hk4:∀ d,d≠bm→nth B4 d=nth B3 d:=fun d hd=>by rw [hB4,nth_eq,List.getElem?_set_ne (Ne.symm hd),← nth_eq]
   rw [← hB4,← hBl4]
   refine go_reg' (tk:=[]) (by kernel_rfl) ?_
   have hL1:∀ es,loadA Tryz.prog ⟨B4++[X,Y,Z],es⟩ gl.g 62 (.ptr (B4.length+2) 0)=some (.agg (partC ⟨false,addP noP m.sets.length,addP noP m.sets.length⟩)):=fun es=>ldP (k:=2) (by rw [← hZ];rfl)
   simp only [go_os,go_os_nil,op_load0,op_store_x,peek,take_tmp,takeV_agg,rdQ_some,opQ_val,putA,clr_agg,clr_ptr,Option.bind_some,Option.map_some,nth_cons0,nth_cons,List.set_cons_zero,List.set_cons_succ,hL1]
   rw [stP (k:=1) (q:=⟨false,noP,noP⟩) (by rw [← hY];rfl)]
   simp only [opQ_skip,putA,go_ret,go_nil,Fx,List.set_cons_succ,List.set_cons_zero]
   refine ⟨trivial,[.agg (partC ⟨false,addP noP m.sets.length,addP noP m.sets.length⟩)],?_,by rw [hP];rfl,some j,⟨u,(gB (by omega)).trans (hg4.trans (by rw [hSR])),⟨v+1,by rw [hu',hN];simp,(gB (by omega)).trans ((hk4 j hjb).trans (hj3.trans (by rw [hN];simp [flatV,V.cells])))⟩,fun k hk hn=>?_⟩,.inl rfl,?_⟩
   ·simp only [resultsA,nth_cons0,nth_cons]
    rw [ldP (k:=1) (p:=⟨false,addP noP m.sets.length,addP noP m.sets.length⟩) rfl]
    simp [clr]
   ·cases hk
    omega
   ·exact ⟨by simp only [List.length_append];omega,fun d hd hnd=>(gB (by rw [hBl4,hBl3,hBl2];exact hd)).trans ((hk4 d fun e=>hnd (.inl e)).trans (hk3 d (fun e=>hnd (.inl e)) (fun e=>hnd (.inr (by rw [e])))))⟩
end Go.Proofs.YtkbdcmehffmfpaaGreatDoor
namespace Go.Proofs.YtkbdcmehffmfpaaGreatDoor
set_option maxRecDepth 100000
open Go Go.Vm
variable {gl:Gl}
def joinedM (op:Int) (k:Nat) (a b:Part) (ns:List (Nat→Bool)):Part×List (Nat→Bool) :=
 if k=0 then (b,ns)
 else if op=6 then (⟨a.null || b.null,joinP a.first b.first,joinP a.last b.last⟩,ns)
 else (⟨a.null && b.null,if a.null then joinP a.first b.first else a.first,if b.null then joinP a.last b.last else b.last⟩,fol b.first (preN a.last 19) ns)
theorem setU_app {bs ls:List Blk} {i:Option Nat} {ns:List (Nat→Bool)} (h:∀ j,i=some j→j<bs.length):setU (bs++ls) i ns=setU bs i ns++ls:=by
 cases i with
 | none=>rfl
 | some j =>
  have hj:=h j rfl
  simp only [setU,gB hj]
  cases nth bs j with
  | none=>rfl
  | some x=>cases x<;>simp [sB hj]
theorem ag60:aggT Tryz.prog 60=some true:=by kernel_rfl
theorem sz60:szOf Tryz.prog 60=some 19:=by kernel_rfl
theorem partC_f (p:Part):partC p=[.bool p.null]++pv 19 p.first++pv 19 p.last:=rfl
theorem partC_l (p:Part):partC p=(.bool p.null::pv 19 p.first)++pv 19 p.last++[]:=by simp [partC]
theorem join_f (hg:GW gl) {n:Nat} (hn:21≤n) {B:List Blk} {z:Blk} {a b:Part}:Cx.callF ⟨Tryz.prog,gl.g,callA Tryz.prog gl n,uqw⟩ 20 [.ptr B.length 1,.ptr (B.length+1) 1] ⟨B++[.cells (partC a) 62,.cells (partC b) 62,z],[]⟩=some (.val (.tup []),⟨B++[.cells (partC ⟨a.null,joinP a.first b.first,a.last⟩) 62,.cells (partC b) 62,z],[]⟩):=by
 have h:=join_run hg (n:=n - 1) (by omega) (bs:=B++[.cells (partC a) 62,.cells (partC b) 62,z]) (es:=[]) (b:=B.length) (b':=B.length+1) (gN0.trans (by rw [partC_f a];rfl)) rfl ((gN (k:=1)).trans (by rw [partC_f b];rfl)) rfl (by omega)
 rw [show n - 1+1=n by omega,sN0] at h
 exact callF_run Tryz.func20 rfl h
theorem join_l (hg:GW gl) {n:Nat} (hn:21≤n) {B:List Blk} {z:Blk} {a b:Part}:Cx.callF ⟨Tryz.prog,gl.g,callA Tryz.prog gl n,uqw⟩ 20 [.ptr B.length 20,.ptr (B.length+1) 20] ⟨B++[.cells (partC a) 62,.cells (partC b) 62,z],[]⟩=some (.val (.tup []),⟨B++[.cells (partC ⟨a.null,a.first,joinP a.last b.last⟩) 62,.cells (partC b) 62,z],[]⟩):=by
 have h:=join_run hg (n:=n - 1) (by omega) (bs:=B++[.cells (partC a) 62,.cells (partC b) 62,z]) (es:=[]) (b:=B.length) (b':=B.length+1) (gN0.trans (by rw [partC_l a];rfl)) (off:=20) (by simp [pv_len]) ((gN (k:=1)).trans (by rw [partC_l b];rfl)) (off':=20) (by simp [pv_len]) (by omega)
 rw [show n - 1+1=n by omega,sN0] at h
 simp only [List.append_nil] at h
 exact callF_run Tryz.func20 rfl h
theorem joined_run (hg:GW gl) {n:Nat} (hn:1301≤n) {bs:List Blk} {es:List (Nat×Nat)} {bm:Nat} {a0 a1 c:V} {i:Option Nat} {ns:List (Nat→Bool)} {op:Int} {k:Nat} {a b:Part} {ty0:TypeId} (hk:k<2 ^ 60)
  (hm:nth bs bm=some (.cells [a0,a1,c] ty0)) (hu:UL ⟨bs,es⟩ 19 60 c i (ns.map (pv 19))) (hmem:∀ k∈preN a.last 19,k<ns.length) :
  callA Tryz.prog gl (n+1) 37 [.ptr bm 0,.int .i64 op,.int .i64 k,.agg (partC a),.agg (partC b)] ⟨bs,es⟩=some (.ret (.agg (partC (joinedM op k a b ns).1)),⟨setU bs i (joinedM op k a b ns).2,es⟩):=by
 have hlt:bm<bs.length:=get_lt (H:=⟨bs,es⟩) hm
 suffices hmain:(go ⟨Tryz.prog,gl,callA Tryz.prog gl n,uqw⟩ n (Fx Tryz.prog Tryz.f37.results.toList fun w H1=>w=.agg (partC (joinedM op k a b ns).1)∧∃ ls,H1=⟨setU bs i (joinedM op k a b ns).2++ls,[]⟩) [.c (Tryz.f37.body.getD .skip)] .normal ⟨[.ptr bm 0,.int .i64 op,.int .i64 k,.agg (partC a),.agg (partC b)]++List.replicate 52 (.tup []),⟨bs,[]⟩,[],[]⟩) by
  obtain ⟨w,H1,h0,rfl,ls,rfl⟩:=go_intro' (gl:=gl) (f:=37) (bs:=bs) (es:=es) (args:=[.ptr bm 0,.int .i64 op,.int .i64 k,.agg (partC a),.agg (partC b)]) (n:=n) (hg.hk _ _ (by decide)) (fun H=>hg.hk2 _ _ _ _) Tryz.func37 rfl (by rw [hg.uq];exact hmain)
  rw [h0]
  have:=finishH_clean (bs:=setU bs i (joinedM op k a b ns).2) (ls:=ls) (es:=es) (t:=(V.agg (partC (joinedM op k a b ns).1)).top) (by simp [V.top,partC_tops])
  rw [setU_len] at this
  rw [this]
 have hbox:∀ p:Part,okC (V.agg (partC p))=true:=fun _=>rfl
 simp only [Tryz.f37,Option.getD_some,go_seq]
 refine go_reg' (tk:=[]) (by kernel_rfl) ?_
 simp only [go_os,go_os_nil,go_seq,go_block,op_box,op_alloc_z,take_tmp,takeV_agg,opQ_val,putA,push_mk,List.length_append,List.length_cons,List.length_nil,Nat.zero_add,Nat.reduceAdd,List.append_assoc,List.cons_append,List.nil_append,nth_cons0,nth_cons,List.set_cons_zero,List.set_cons_succ,boxQ_some (hbox a),boxQ_some (hbox b),z62,alcQ_some (hbox ⟨false,noP,noP⟩),V.laid,V.cells,partC_clr,List.replicate]
 refine go_reg' (tk:=[]) (by kernel_rfl) ?_
 simp only [go_os,go_os_nil,go_seq,op_move0,op_binOp,op_assign,peek,take_tmp,ofVal,takeV_bool,rdQ_some,tkQ_some,opQ_val,putA,clr_int,clr_bool,go_cond',condQ_b,nth_cons0,nth_cons,List.set_cons_zero,List.set_cons_succ,bin_eql]
 have hL0:∀ (B ls:List Blk) (p:Part) es,loadA Tryz.prog ⟨B++.cells (partC p) 62::ls,es⟩ gl.g 62 (.ptr B.length 0)=some (.agg (partC p)):=fun B ls p es=>ldP (k:=0) rfl
 have hL1:∀ (B ls:List Blk) x (p:Part) es,loadA Tryz.prog ⟨B++x::.cells (partC p) 62::ls,es⟩ gl.g 62 (.ptr (B.length+1) 0)=some (.agg (partC p)):=fun B ls x p es=>ldP (k:=1) rfl
 have hN0:∀ (B ls:List Blk) (p:Part) es,loadA Tryz.prog ⟨B++.cells (partC p) 62::ls,es⟩ gl.g 4 (.ptr B.length 0)=some (.bool p.null):=fun B ls p es=>ld1N0 ag4 rfl rfl
 have hN1:∀ (B ls:List Blk) x (p:Part) es,loadA Tryz.prog ⟨B++x::.cells (partC p) 62::ls,es⟩ gl.g 4 (.ptr (B.length+1) 0)=some (.bool p.null):=fun B ls x p es=>ld1N (k:=1) ag4 rfl rfl
 have hS2:∀ (B:List Blk) x y (p q:Part) es env,storX Tryz.prog 62 ⟨B++[x,y,.cells (partC q) 62],es⟩ [] [] (some (.agg (partC p),env)) (some (.ptr (B.length+2) 0))=some (.skip,⟨env,⟨B++[x,y,.cells (partC p) 62],es⟩,[],[]⟩):=fun B x y p q es env=>stP (k:=2) rfl
 have hN0s:∀ (B ls:List Blk) (p:Part) es env v,storX Tryz.prog 4 ⟨B++.cells (partC p) 62::ls,es⟩ [] [] (some (.bool v,env)) (some (.ptr B.length 0))=some (.skip,⟨env,⟨B++.cells (partC ⟨v,p.first,p.last⟩) 62::ls,es⟩,[],[]⟩):=fun B ls p es env v=>by
  rw [storN0 (cs:=partC p) (ty:=62) sz4 rfl rfl rfl (by rw [partC_len];decide) partC_unl rfl]
  rfl
 have hres:∀ (B:List Blk) x y (p:Part) es (env:List V),nth env 10=some (.ptr (B.length+2) 0)→resultsA Tryz.prog ⟨B++[x,y,.cells (partC p) 62],es⟩ env [.cell 10 62]=some [.agg (partC p)]:=fun B x y p es env he=>by
  simp only [resultsA,he]
  rw [ldP (k:=2) rfl]
  simp [clr]
 by_cases hk0:k=0
 ·subst hk0
  refine .inl ⟨rfl,?_⟩
  refine go_reg' (tk:=[]) (by kernel_rfl) ?_
  simp only [go_os,go_os_nil,op_load0,op_store_x,peek,take_tmp,takeV_agg,rdQ_some,opQ_val,opQ_skip,putA,clr_agg,clr_ptr,Option.bind_some,Option.map_some,nth_cons0,nth_cons,List.set_cons_zero,List.set_cons_succ,hL1,hS2,go_ret]
  simp only [go_nil,go_c_ret,go_eb_ret,Fx,show joinedM op 0 a b ns=(b,ns) from if_pos rfl,setU_same hu]
  exact ⟨trivial,[.agg (partC b)],hres _ _ _ _ _ _ rfl,rfl,_,rfl⟩
 ·refine .inr ⟨by simpa using hk0,?_⟩
  refine go_reg' (tk:=[]) (by kernel_rfl) ?_
  simp only [go_os,go_os_nil,go_seq,go_skip,go_eb,op_move0,op_binOp,op_assign,peek,take_tmp,ofVal,takeV_bool,rdQ_some,tkQ_some,opQ_val,putA,clr_int,clr_bool,go_cond',condQ_b,nth_cons0,nth_cons,List.set_cons_zero,List.set_cons_succ,bin_eql]
  obtain ⟨an,af,al⟩:=a
  obtain ⟨bn,bf,bl⟩:=b
  by_cases h6:op=6
  ·subst h6
   refine .inl ⟨rfl,?_⟩
   refine go_reg' (tk:=[]) (by kernel_rfl) ?_
   simp only [go_os,op_move0,op_load0,op_fieldAddr2,peek,rdQ_some,opQ_val,putA,clr_bool,clr_ptr,Option.bind_some,Option.map_some,faddrO_some,faddrV,Nat.add_zero,nth_cons0,nth_cons,List.set_cons_zero,List.set_cons_succ,fo62_0,hN0]
   have hJ:joinedM 6 k ⟨an,af,al⟩ ⟨bn,bf,bl⟩ ns=(⟨an || bn,joinP af bf,joinP al bl⟩,ns):=by rw [joinedM,if_neg hk0,if_pos rfl]
   rcases an with _|_
   all_goals
    simp only [go_osg,wanted_nth,nth_cons0,nth_cons,Option.map_some,wantO_s,wantB_ft,wantB_ff,gdQ_t,gdQ_f]
    simp only [go_os,go_os_nil,go_seq,op_load0,op_store_x,op_pick,op_fieldAddr2,peek,take_tmp,ofVal,takeV_bool,rdQ_some,opQ_val,putA,clr_bool,clr_ptr,Option.bind_some,faddrO_some,faddrV,Nat.add_zero,pickV_t,nth_cons0,nth_cons,List.set_cons_zero,List.set_cons_succ,fo62_0]
    simp only [go_osg,wanted_nth,nth_cons0,nth_cons,Option.map_some,wantO_s,wantB_ft,wantB_ff,gdQ_t,gdQ_f]
    try simp only [go_os,go_os_nil,go_seq,op_load0,op_store_x,op_pick,op_fieldAddr2,peek,take_tmp,ofVal,takeV_bool,rdQ_some,opQ_val,opQ_skip,putA,clr_bool,clr_ptr,Option.bind_some,Option.map_some,faddrO_some,faddrV,Nat.add_zero,pickV_f,nth_cons0,nth_cons,List.set_cons_zero,List.set_cons_succ,fo62_0,hN1,hN0s]
    refine go_reg' (tk:=[]) (by kernel_rfl) ?_
    simp only [go_os,go_os_nil,go_seq,op_fieldAddr2,op_call,peeks,fV_eq,peek,rdQ_some,opQ_val,putA,clr_ptr,Option.bind_some,faddrO_some,faddrV,callG_some,callQ,List.map_cons,List.map_nil,Nat.zero_add,nth_cons0,nth_cons,List.set_cons_zero,List.set_cons_succ,fo62_1,join_f hg (show 21≤n by omega)]
    refine go_reg' (tk:=[]) (by kernel_rfl) ?_
    simp only [go_os,go_os_nil,go_seq,op_fieldAddr2,op_call,peeks,fV_eq,peek,rdQ_some,opQ_val,putA,clr_ptr,Option.bind_some,faddrO_some,faddrV,callG_some,callQ,List.map_cons,List.map_nil,Nat.zero_add,nth_cons0,nth_cons,List.set_cons_zero,List.set_cons_succ,fo62_2,join_l hg (show 21≤n by omega)]
    refine go_reg' (tk:=[]) (by kernel_rfl) ?_
    simp only [go_os,go_os_nil,op_load0,op_store_x,peek,take_tmp,takeV_agg,rdQ_some,opQ_val,opQ_skip,putA,clr_agg,clr_ptr,Option.bind_some,Option.map_some,nth_cons0,nth_cons,List.set_cons_zero,List.set_cons_succ,hL0,hS2]
    simp only [go_ret,go_nil,go_c_ret,go_eb_ret,Fx,hJ,setU_same hu]
    exact ⟨trivial,_,hres _ _ _ _ _ _ rfl,rfl,_,rfl⟩
  ·refine .inr ⟨by simpa using h6,?_⟩
   have hJ:joinedM op k ⟨an,af,al⟩ ⟨bn,bf,bl⟩ ns=(⟨an && bn,if an then joinP af bf else af,if bn then joinP al bl else bl⟩,fol bf (preN al 19) ns):=by rw [joinedM,if_neg hk0,if_neg h6]
   have hilt:∀ j,i=some j→j<bs.length:=fun j hj=>by subst hj;exact hu.lt
   have hfol:Cx.callF ⟨Tryz.prog,gl.g,callA Tryz.prog gl n,uqw⟩ 19 [.ptr bm 0,.ptr bs.length 20,.ptr (bs.length+1) 1] ⟨bs++[Blk.cells (partC ⟨an,af,al⟩) 62,.cells (partC ⟨bn,bf,bl⟩) 62,.cells (partC ⟨false,noP,noP⟩) 62],[]⟩=some (.val (.tup []),⟨setU bs i (fol bf (preN al 19) ns)++[Blk.cells (partC ⟨an,af,al⟩) 62,.cells (partC ⟨bn,bf,bl⟩) 62,.cells (partC ⟨false,noP,noP⟩) 62],[]⟩):=by
    have h:=follows_run hg (n:=n - 1) (by omega) (bs:=bs++[Blk.cells (partC ⟨an,af,al⟩) 62,.cells (partC ⟨bn,bf,bl⟩) 62,.cells (partC ⟨false,noP,noP⟩) 62]) (es:=[]) (bm:=bm) (bl:=bs.length) (bf:=bs.length+1) (ns:=ns) (i:=i) ((gB hlt).trans hm) (hu.frame fun j hj=>gB (hilt j hj)) (gN0.trans (by rw [partC_l ⟨an,af,al⟩];rfl)) (ol:=20) (by simp [pv_len]) ((gN (k:=1)).trans (by rw [partC_f ⟨bn,bf,bl⟩];rfl)) (ob:=1) rfl hmem
    rw [show n - 1+1=n by omega,setU_app hilt] at h
    exact callF_run Tryz.func19 rfl h
   refine go_reg' (tk:=[]) (by kernel_rfl) ?_
   simp only [go_os,go_os_nil,go_seq,op_move0,op_fieldAddr2,op_call,peeks,fV_eq,peek,rdQ_some,opQ_val,putA,clr_ptr,Option.bind_some,faddrO_some,faddrV,callG_some,callQ,List.map_cons,List.map_nil,Nat.zero_add,nth_cons0,nth_cons,List.set_cons_zero,List.set_cons_succ,fo62_1,fo62_2,hfol]
   obtain ⟨B,hB⟩:∃ B,B=setU bs i (fol bf (preN al 19) ns):=⟨_,rfl⟩
   have hBl:B.length=bs.length:=by rw [hB,setU_len]
   rw [← hB,← hBl]
   refine go_reg' (tk:=[]) (by kernel_rfl) ?_
   simp only [go_os,go_os_nil,go_seq,go_skip,op_load0,op_fieldAddr2,peek,rdQ_some,opQ_val,putA,clr_bool,clr_ptr,Option.bind_some,Option.map_some,faddrO_some,faddrV,Nat.add_zero,go_cond',condQ_b,nth_cons0,nth_cons,List.set_cons_zero,List.set_cons_succ,fo62_0,hN0]
   have h60:∀ (B ls:List Blk) x (p:Part) es,loadA Tryz.prog ⟨B++x::.cells (partC p) 62::ls,es⟩ gl.g 60 (.ptr (B.length+1) 20)=some (.agg (pv 19 p.last)):=fun B ls x p es=>by
    rw [ldaN (k:=1) ag60 sz60 rfl (by rw [partC_len];decide),part_last]
   have h60s:∀ (B ls:List Blk) (p:Part) l es env,storX Tryz.prog 60 ⟨B++.cells (partC p) 62::ls,es⟩ [] [] (some (.agg (pv 19 l),env)) (some (.ptr B.length 20))=some (.skip,⟨env,⟨B++.cells (partC ⟨p.null,p.first,l⟩) 62::ls,es⟩,[],[]⟩):=fun B ls p l es env=>by
    rw [storN0 (cs:=partC p) (ty:=62) sz60 rfl rfl (by simp [V.laid,pv_len]) (by rw [partC_len];decide) partC_unl pv_top]
    simp only [V.laid,pv_clr,stc_last,List.set_cons_zero]
   cases an
   all_goals
    first
     |refine .inl ⟨rfl,?_⟩
      refine go_reg' (tk:=[]) (by kernel_rfl) ?_
      simp only [go_os,go_os_nil,go_seq,op_fieldAddr2,op_call,peeks,fV_eq,peek,rdQ_some,opQ_val,putA,clr_ptr,Option.bind_some,faddrO_some,faddrV,callG_some,callQ,List.map_cons,List.map_nil,Nat.zero_add,nth_cons0,nth_cons,List.set_cons_zero,List.set_cons_succ,fo62_1,join_f hg (show 21≤n by omega)]
     |refine .inr ⟨rfl,?_⟩
    refine go_reg' (tk:=[]) (by kernel_rfl) ?_
    simp only [go_os,go_os_nil,op_load0,op_fieldAddr2,peek,rdQ_some,opQ_val,putA,clr_bool,clr_ptr,Option.bind_some,Option.map_some,faddrO_some,faddrV,Nat.add_zero,go_cond',condQ_b,nth_cons0,nth_cons,List.set_cons_zero,List.set_cons_succ,fo62_0,hN1]
   all_goals cases bn
   all_goals
    first
     |refine .inl ⟨rfl,?_⟩
      refine go_reg' (tk:=[]) (by kernel_rfl) ?_
      simp only [go_os,go_os_nil,go_seq,op_fieldAddr2,op_call,peeks,fV_eq,peek,rdQ_some,opQ_val,putA,clr_ptr,Option.bind_some,faddrO_some,faddrV,callG_some,callQ,List.map_cons,List.map_nil,Nat.zero_add,nth_cons0,nth_cons,List.set_cons_zero,List.set_cons_succ,fo62_2,join_l hg (show 21≤n by omega)]
     |refine .inr ⟨rfl,?_⟩
      refine go_reg' (tk:=[]) (by kernel_rfl) ?_
      simp only [go_os,go_os_nil,go_seq,op_load0,op_store_x,op_fieldAddr2,peek,take_tmp,takeV_agg,rdQ_some,opQ_val,opQ_skip,putA,clr_agg,clr_ptr,Option.bind_some,Option.map_some,faddrO_some,faddrV,Nat.zero_add,nth_cons0,nth_cons,List.set_cons_zero,List.set_cons_succ,fo62_2,h60,h60s]
    refine go_reg' (tk:=[]) (by kernel_rfl) ?_
    simp only [go_os,op_move0,op_load0,op_fieldAddr2,peek,rdQ_some,opQ_val,putA,clr_bool,clr_ptr,Option.bind_some,Option.map_some,faddrO_some,faddrV,Nat.add_zero,nth_cons0,nth_cons,List.set_cons_zero,List.set_cons_succ,fo62_0,hN0]
    simp only [go_osg,wanted_nth,nth_cons0,nth_cons,Option.map_some,wantO_s,wantB_tt,wantB_tf,gdQ_t,gdQ_f]
    simp only [go_os,go_os_nil,go_seq,op_load0,op_store_x,op_pick,op_fieldAddr2,peek,take_tmp,ofVal,takeV_bool,rdQ_some,opQ_val,putA,clr_bool,clr_ptr,Option.bind_some,faddrO_some,faddrV,Nat.add_zero,pickV_f,nth_cons0,nth_cons,List.set_cons_zero,List.set_cons_succ,fo62_0]
    simp only [go_osg,wanted_nth,nth_cons0,nth_cons,Option.map_some,wantO_s,wantB_tt,wantB_tf,gdQ_t,gdQ_f]
    try simp only [go_os,go_os_nil,go_seq,op_load0,op_store_x,op_pick,op_fieldAddr2,peek,take_tmp,ofVal,takeV_bool,rdQ_some,opQ_val,opQ_skip,putA,clr_bool,clr_ptr,Option.bind_some,Option.map_some,faddrO_some,faddrV,Nat.add_zero,pickV_t,nth_cons0,nth_cons,List.set_cons_zero,List.set_cons_succ,fo62_0,hN1,hN0s]
    refine go_reg' (tk:=[]) (by kernel_rfl) ?_
    simp only [go_os,go_os_nil,op_load0,op_store_x,peek,take_tmp,takeV_agg,rdQ_some,opQ_val,opQ_skip,putA,clr_agg,clr_ptr,Option.bind_some,Option.map_some,nth_cons0,nth_cons,List.set_cons_zero,List.set_cons_succ,hL0,hS2]
    simp only [go_ret,go_nil,Fx,hJ,← hB]
    exact ⟨trivial,_,hres _ _ _ _ _ _ rfl,rfl,_,rfl⟩
end Go.Proofs.YtkbdcmehffmfpaaGreatDoor
namespace Go.Proofs.YtkbdcmehffmfpaaGreatDoor
set_option maxRecDepth 100000
open Go Go.Vm
variable {gl:Gl}
def repM (mn mx:Int) (p:Part) (ns:List (Nat→Bool)):Part×List (Nat→Bool) :=
 (⟨p.null || mn == 0,p.first,p.last⟩,if mx<0 then fol p.first (preN p.last 19) ns else ns)
theorem fo45_4:fieldOff Tryz.prog 45 4=some 7:=by kernel_rfl
theorem fo45_5:fieldOff Tryz.prog 45 5=some 8:=by kernel_rfl
theorem repeated_run (hg:GW gl) {n:Nat} (hn:1301≤n) {bs:List Blk} {es:List (Nat×Nat)} {bm:Nat} {a0 a1 c:V} {i:Option Nat} {ns:List (Nat→Bool)} {op pl s0 s1 s2 s3 mn mx:Int} {text:List Nat} {nl:Bool} {args:List E} {p:Part} {ty0:TypeId}
  (hm:nth bs bm=some (.cells [a0,a1,c] ty0)) (hu:UL ⟨bs,es⟩ 19 60 c i (ns.map (pv 19))) (hmem:∀ k∈preN p.last 19,k<ns.length) :
  callA Tryz.prog gl (n+1) 38 [.ptr bm 0,enc (.mk op pl s0 s1 s2 s3 text mn mx nl args),.agg (partC p)] ⟨bs,es⟩=some (.ret (.agg (partC (repM mn mx p ns).1)),⟨setU bs i (repM mn mx p ns).2,es⟩):=by
 have hlt:bm<bs.length:=get_lt (H:=⟨bs,es⟩) hm
 suffices hmain:(go ⟨Tryz.prog,gl,callA Tryz.prog gl n,uqw⟩ n (Fx Tryz.prog Tryz.f38.results.toList fun w H1=>w=.agg (partC (repM mn mx p ns).1)∧∃ ls,H1=⟨setU bs i (repM mn mx p ns).2++ls,[]⟩) [.c (Tryz.f38.body.getD .skip)] .normal ⟨[.ptr bm 0,enc (.mk op pl s0 s1 s2 s3 text mn mx nl args),.agg (partC p)]++List.replicate 20 (.tup []),⟨bs,[]⟩,[],[]⟩) by
  obtain ⟨w,H1,h0,rfl,ls,rfl⟩:=go_intro' (gl:=gl) (f:=38) (bs:=bs) (es:=es) (args:=[.ptr bm 0,enc (.mk op pl s0 s1 s2 s3 text mn mx nl args),.agg (partC p)]) (n:=n) (hg.hk _ _ (by decide)) (fun H=>hg.hk2 _ _ _ _) Tryz.func38 rfl (by rw [hg.uq];exact hmain)
  rw [h0]
  have:=finishH_clean (bs:=setU bs i (repM mn mx p ns).2) (ls:=ls) (es:=es) (t:=(V.agg (partC (repM mn mx p ns).1)).top) (by simp [V.top,partC_tops])
  rw [setU_len] at this
  rw [this]
 have hbox:∀ p:Part,okC (V.agg (partC p))=true:=fun _=>rfl
 have hboxe:okC (enc (.mk op pl s0 s1 s2 s3 text mn mx nl args))=true:=rfl
 simp only [Tryz.f38,Option.getD_some,go_seq]
 refine go_reg' (tk:=[]) (by kernel_rfl) ?_
 simp only [enc] at hboxe ⊢
 simp only [go_os,go_os_nil,go_seq,op_box,op_alloc_z,take_tmp,takeV_agg,opQ_val,putA,clr_int,clr_str,List.map_cons,List.map_nil,push_mk,List.length_append,List.length_cons,List.length_nil,Nat.zero_add,Nat.reduceAdd,List.append_assoc,List.cons_append,List.nil_append,nth_cons0,nth_cons,List.set_cons_zero,List.set_cons_succ,boxQ_some hboxe,boxQ_some (hbox p),z62,alcQ_some (hbox ⟨false,noP,noP⟩),V.laid,V.cells,partC_clr,clr_argV,List.replicate]
 generalize hX:Blk.cells [V.int IntKind.i64 op,V.int IntKind.i64 pl,V.int IntKind.u64 s0,V.int IntKind.u64 s1,V.int IntKind.u64 s2,V.int IntKind.u64 s3,V.str text,V.int IntKind.i64 mn,V.int IntKind.i64 mx,argV nl (encs args)] 45=X
 have hmx:∀ (B ls:List Blk) es,loadA Tryz.prog ⟨B++X::ls,es⟩ gl.g 3 (.ptr B.length 8)=some (.int .i64 mx):=fun B ls es=>ld1N0 ag3 (by rw [← hX];rfl) rfl
 have hmn:∀ (B ls:List Blk) es,loadA Tryz.prog ⟨B++X::ls,es⟩ gl.g 3 (.ptr B.length 7)=some (.int .i64 mn):=fun B ls es=>ld1N0 ag3 (by rw [← hX];rfl) rfl
 have hL1:∀ (B ls:List Blk) x (p:Part) es,loadA Tryz.prog ⟨B++x::.cells (partC p) 62::ls,es⟩ gl.g 62 (.ptr (B.length+1) 0)=some (.agg (partC p)):=fun B ls x p es=>ldP (k:=1) rfl
 have hN1:∀ (B ls:List Blk) x (p:Part) es,loadA Tryz.prog ⟨B++x::.cells (partC p) 62::ls,es⟩ gl.g 4 (.ptr (B.length+1) 0)=some (.bool p.null):=fun B ls x p es=>ld1N (k:=1) ag4 rfl rfl
 have hS2:∀ (B:List Blk) x y (p q:Part) es env,storX Tryz.prog 62 ⟨B++[x,y,.cells (partC q) 62],es⟩ [] [] (some (.agg (partC p),env)) (some (.ptr (B.length+2) 0))=some (.skip,⟨env,⟨B++[x,y,.cells (partC p) 62],es⟩,[],[]⟩):=fun B x y p q es env=>stP (k:=2) rfl
 have hN1s:∀ (B ls:List Blk) x (p:Part) es env v,storX Tryz.prog 4 ⟨B++x::.cells (partC p) 62::ls,es⟩ [] [] (some (.bool v,env)) (some (.ptr (B.length+1) 0))=some (.skip,⟨env,⟨B++x::.cells (partC ⟨v,p.first,p.last⟩) 62::ls,es⟩,[],[]⟩):=fun B ls x p es env v=>by
  rw [storN (k:=1) (cs:=partC p) (ty:=62) sz4 rfl rfl rfl (by rw [partC_len];decide) partC_unl rfl]
  rfl
 have hres:∀ (B:List Blk) x y (p:Part) es (env:List V),nth env 6=some (.ptr (B.length+2) 0)→resultsA Tryz.prog ⟨B++[x,y,.cells (partC p) 62],es⟩ env [.cell 6 62]=some [.agg (partC p)]:=fun B x y p es env he=>by
  simp only [resultsA,he]
  rw [ldP (k:=2) rfl]
  simp [clr]
 refine go_reg' (tk:=[]) (by kernel_rfl) ?_
 simp only [go_os,go_os_nil,go_seq,go_skip,op_load0,op_binOp,op_fieldAddr2,peek,ofVal,rdQ_some,opQ_val,putA,clr_int,clr_bool,clr_ptr,Option.bind_some,Option.map_some,faddrO_some,faddrV,Nat.zero_add,go_cond',condQ_b,nth_cons0,nth_cons,List.set_cons_zero,List.set_cons_succ,fo45_5,hmx,bin_lss]
 have hilt:∀ j,i=some j→j<bs.length:=fun j hj=>by subst hj;exact hu.lt
 obtain ⟨pn,pf,pl⟩:=p
 have hfol:Cx.callF ⟨Tryz.prog,gl.g,callA Tryz.prog gl n,uqw⟩ 19 [.ptr bm 0,.ptr (bs.length+1) 20,.ptr (bs.length+1) 1] ⟨bs++[X,.cells (partC ⟨pn,pf,pl⟩) 62,.cells (partC ⟨false,noP,noP⟩) 62],[]⟩=some (.val (.tup []),⟨setU bs i (fol pf (preN pl 19) ns)++[X,.cells (partC ⟨pn,pf,pl⟩) 62,.cells (partC ⟨false,noP,noP⟩) 62],[]⟩):=by
  have h:=follows_run hg (n:=n - 1) (by omega) (bs:=bs++[X,.cells (partC ⟨pn,pf,pl⟩) 62,.cells (partC ⟨false,noP,noP⟩) 62]) (es:=[]) (bm:=bm) (bl:=bs.length+1) (bf:=bs.length+1) (ns:=ns) (i:=i) ((gB hlt).trans hm) (hu.frame fun j hj=>gB (hilt j hj)) ((gN (k:=1)).trans (by rw [partC_l ⟨pn,pf,pl⟩];rfl)) (ol:=20) (by simp [pv_len]) ((gN (k:=1)).trans (by rw [partC_f ⟨pn,pf,pl⟩];rfl)) (ob:=1) rfl hmem
  rw [show n - 1+1=n by omega,setU_app hilt] at h
  exact callF_run Tryz.func19 rfl h
 obtain ⟨ns',hns⟩:∃ ns',ns'=(repM mn mx ⟨pn,pf,pl⟩ ns).2:=⟨_,rfl⟩
 rw [← hns]
 obtain ⟨B,hB⟩:∃ B,B=setU bs i ns':=⟨_,rfl⟩
 have hBl:B.length=bs.length:=by rw [hB,setU_len]
 have hP:(repM mn mx ⟨pn,pf,pl⟩ ns).1=⟨pn || mn == 0,pf,pl⟩:=rfl
 rcases Classical.em (mx<0) with h|h
 all_goals
  first
   |refine .inl ⟨by simpa using h,?_⟩
    refine go_reg' (tk:=[]) (by kernel_rfl) ?_
    have:ns'=fol pf (preN pl 19) ns:=by rw [hns];exact if_pos h
    rw [← this] at hfol
    simp only [go_os,go_os_nil,go_seq,op_move0,op_fieldAddr2,op_call,peeks,fV_eq,peek,rdQ_some,opQ_val,putA,clr_ptr,Option.bind_some,faddrO_some,faddrV,callG_some,callQ,List.map_cons,List.map_nil,Nat.zero_add,nth_cons0,nth_cons,List.set_cons_zero,List.set_cons_succ,fo62_1,fo62_2,hfol,← hB]
    rw [← hBl]
   |refine .inr ⟨by simpa using h,?_⟩
    have:ns'=ns:=by rw [hns];exact if_neg h
    have hBb:B=bs:=by rw [hB,this];exact setU_same hu
    rw [← hB,← hBb]
  refine go_reg' (tk:=[]) (by kernel_rfl) ?_
  simp only [go_os,op_move0,op_load0,op_fieldAddr2,peek,rdQ_some,opQ_val,putA,clr_bool,clr_ptr,Option.bind_some,Option.map_some,faddrO_some,faddrV,Nat.add_zero,nth_cons0,nth_cons,List.set_cons_zero,List.set_cons_succ,fo62_0,hN1]
  cases pn
 all_goals
  simp only [go_osg,wanted_nth,nth_cons0,nth_cons,Option.map_some,wantO_s,wantB_ft,wantB_ff,gdQ_t,gdQ_f]
  try simp only [go_os,op_load0,op_binOp,op_pick,op_fieldAddr2,peek,ofVal,rdQ_some,opQ_val,putA,clr_bool,clr_ptr,Option.bind_some,faddrO_some,faddrV,Nat.zero_add,pickV_t,nth_cons0,nth_cons,List.set_cons_zero,List.set_cons_succ,fo45_4]
  try simp only [go_osg,wanted_nth,nth_cons0,nth_cons,Option.map_some,wantO_s,wantB_ft,wantB_ff,gdQ_t,gdQ_f]
  try simp only [op_load0,peek,rdQ_some,opQ_val,putA,clr_int,clr_ptr,Option.bind_some,Option.map_some,nth_cons0,nth_cons,List.set_cons_zero,List.set_cons_succ,hmn]
  try simp only [go_osg,wanted_nth,nth_cons0,nth_cons,Option.map_some,wantO_s,wantB_ff,gdQ_t]
  try simp only [go_os,go_os_nil,go_seq,op_store_x,op_binOp,op_pick,op_fieldAddr2,peek,take_tmp,ofVal,takeV_bool,rdQ_some,opQ_val,opQ_skip,putA,clr_int,clr_bool,clr_ptr,Option.bind_some,faddrO_some,faddrV,Nat.add_zero,pickV_f,nth_cons0,nth_cons,List.set_cons_zero,List.set_cons_succ,bin_eql,fo62_0,hN1s]
  refine go_reg' (tk:=[]) (by kernel_rfl) ?_
  simp only [go_os,go_os_nil,op_load0,op_store_x,peek,take_tmp,takeV_agg,rdQ_some,opQ_val,opQ_skip,putA,clr_agg,clr_ptr,Option.bind_some,Option.map_some,nth_cons0,nth_cons,List.set_cons_zero,List.set_cons_succ,hL1,hS2]
  simp only [go_ret,go_nil,Fx,hP]
  exact ⟨trivial,_,hres _ _ _ _ _ _ rfl,rfl,_,rfl⟩
theorem u84:Tryz.prog.underlying 84=some (.slice 92):=r84.u
theorem empty_run (hg:GW gl) {n:Nat} {bs:List Blk} {es:List (Nat×Nat)} {b:Nat} {c:V} {ty:TypeId} {i:Option Nat} {xs:List (List V)} (hb:nth bs b=some (.cells [c] ty)) (hu:UL ⟨bs,es⟩ 11 92 c i xs) :
  callA Tryz.prog gl (n+1) 32 [.ptr b 0] ⟨bs,es⟩=some (.ret (.bool xs.isEmpty),⟨bs,es⟩):=by
 suffices hmain:(go ⟨Tryz.prog,gl,callA Tryz.prog gl n,uqw⟩ n (Fx Tryz.prog Tryz.f32.results.toList fun w H1=>w=.bool xs.isEmpty∧H1=⟨bs,[]⟩) [.c (Tryz.f32.body.getD .skip)] .normal ⟨[.ptr b 0]++List.replicate 8 (.tup []),⟨bs,[]⟩,[],[]⟩) by
  obtain ⟨w,H1,h0,rfl,rfl⟩:=go_intro' (gl:=gl) (f:=32) (bs:=bs) (es:=es) (args:=[.ptr b 0]) (n:=n) (hg.hk _ _ (by decide)) (fun H=>hg.hk2 _ _ _ _) Tryz.func32 rfl (by rw [hg.uq];exact hmain)
  rw [h0]
  have:=finishH_clean (bs:=bs) (ls:=[]) (es:=es) (t:=(V.bool xs.isEmpty).top) (Nat.zero_le _)
  rw [List.append_nil] at this
  rw [this]
 have hld:loadA Tryz.prog ⟨bs,[]⟩ gl.g 84 (.ptr b 0)=some c:=load_one ag84 hb rfl
 have hcl:clr c=c∧lenA Tryz.prog ⟨bs,[]⟩ 84 c=some (xs.length:Int):=by
  cases i with
  | none=>obtain ⟨rfl,rfl⟩:=hu;exact ⟨rfl,lenA_snil u84⟩
  | some j=>obtain ⟨v,rfl,_⟩:=hu;exact ⟨rfl,lenA_ulr u84⟩
 have he:((xs.length:Int) == 0)=xs.isEmpty:=by cases xs<;>simp;omega
 simp only [Tryz.f32,Option.getD_some,go_seq]
 refine go_reg' (tk:=[]) (by kernel_rfl) ?_
 simp only [go_os,go_os_nil,go_seq,op_assign,take_const,ofVal,tkQ_some,opQ_val,putA,Option.map_some,List.cons_append,List.nil_append,List.set_cons_zero,List.set_cons_succ,List.replicate]
 refine go_reg' (tk:=[]) (by kernel_rfl) ?_
 simp only [go_os,go_os_nil,op_move0,op_load0,op_binOp,op_assign,op_nilCheck,op_fieldAddr2,op_len,peek,take_tmp,ofVal,takeV_bool,rdQ_some,tkQ_some,opQ_val,putA,clr_int,clr_ptr,Option.bind_some,Option.map_some,derefA,faddrO_some,faddrV,Nat.add_zero,nth_cons0,nth_cons,List.set_cons_zero,List.set_cons_succ,fo86,hld,hcl.1,hcl.2,bin_eql,he]
 simp only [go_ret,go_nil,Fx]
 exact ⟨trivial,[.bool xs.isEmpty],rfl,rfl,trivial⟩
end Go.Proofs.YtkbdcmehffmfpaaGreatDoor
namespace Go.Proofs.YtkbdcmehffmfpaaGreatDoor
set_option maxRecDepth 100000
open Go Go.Vm
variable {gl:Gl}
theorem callA_es {P:Program} (hk2:∀ n f args H,gl.hk2 n f args H=none) {n:Nat} {f:FuncId} {args:List V} {H H':Hp} {o:Out} (h:callA P gl n f args H=some (o,H')):∀ e∈H.edges,e∈H'.edges:=by
 intro e he
 obtain ⟨bs,es⟩:=H
 have hfin:∀ (t:Nat) (H1:Hp),e∈(finishH bs.length es t H1).edges:=fun t H1=>by
  unfold finishH
  split<;>exact List.mem_append_right _ he
 cases n with
 | zero=>simp [callA] at h
 | succ n =>
  simp only [callA,fNat_eq,fL_eq,hk2] at h
  split at h
  ·simp only [Option.some.injEq,Prod.mk.injEq] at h
   obtain ⟨_,rfl⟩:=h
   exact he
  ·split at h<;>try (cases h;done)
   split at h<;>try (cases h;done)
   split at h<;>try (cases h;done)
   split at h<;>try (cases h;done)
   split at h<;>try (cases h;done)
   ·simp only [finishK_eq,Option.some.injEq,Prod.mk.injEq] at h
    rw [← h.2]
    exact hfin _ _
   ·split at h<;>try (cases h;done)
    simp only [fV_eq,finishK_eq,Option.some.injEq,Prod.mk.injEq] at h
    rw [← h.2]
    exact hfin _ _
def ecells:E→List V
 | .mk op pl s0 s1 s2 s3 text mn mx nl args=>[.int .i64 op,.int .i64 pl,.int .u64 s0,.int .u64 s1,.int .u64 s2,.int .u64 s3,.str text,.int .i64 mn,.int .i64 mx,argV nl (encs args)]
theorem enc_cells (e:E):enc e=.agg (ecells e):=by cases e;rfl
theorem ecells_len (e:E):(ecells e).length=10:=by cases e;rfl
theorem ecells_clr (e:E):(ecells e).map clr=ecells e:=by cases e;simp [ecells,clr_argV,clr_int,clr_str]
theorem ecells_tops (e:E):tops (ecells e)=0:=by have:=top_enc e;rwa [enc_cells] at this
theorem ecells_unl (e:E):(ecells e).all (fun c=>!(locked c))=true:=by
 obtain ⟨op,pl,s0,s1,s2,s3,text,mn,mx,nl,args⟩:=e
 rcases argV_cases nl (encs args) with h|⟨_,h⟩<;>simp [ecells,h,locked]
def frC (f:E×Nat):List V:=ecells f.1++[.int .i64 (f.2:Int)]
theorem frC_len (f:E×Nat):(frC f).length=11:=by simp [frC,ecells_len]
theorem frC_clr (f:E×Nat):(frC f).map clr=frC f:=by simp [frC,ecells_clr,clr_int]
theorem frC_tops (f:E×Nat):tops (frC f)=0:=tops_app (ecells_tops _) rfl
def Kp (N bm:Nat) (H H':Hp):Prop:=∀ d cs ty,d≠bm→d≠N+2→d≠N+3→H.get d=some (.cells cs ty)→H'.get d=some (.cells cs ty)
theorem Kp.refl {N bm:Nat} {H:Hp}:Kp N bm H H:=fun _ _ _ _ _ _ h=>h
theorem Kp.trans {N bm:Nat} {A B C:Hp} (h:Kp N bm A B) (k:Kp N bm B C):Kp N bm A C:=fun d cs ty h1 h2 h3 h4=>k d cs ty h1 h2 h3 (h d cs ty h1 h2 h3 h4)
structure WS (bs:List Blk) (bm:Nat) (i0:Option Nat) (H:Hp) (S:List (E×Nat)) (ps:List Part) (m:Mk):Prop where
 len:bs.length+4≤H.blks.length
 lt:bm<bs.length
 op:∃ c i,H.get (bs.length+2)=some (.cells [c] 86)∧UL H 11 92 c i (S.reverse.map frC)∧∀ j,i=some j→bs.length≤j
 dn:∃ c i,H.get (bs.length+3)=some (.cells [c] 89)∧UL H 39 62 c i (ps.reverse.map partC)∧∀ j,i=some j→bs.length≤j
 mkr:∃ i,MK bs.length H bm m i∧NewB bs.length i0 i
 fr:∀ d,d<bs.length→d≠bm→i0≠some d→H.get d=nth bs d
theorem UL_ndH {H:Hp} {sz:Nat} {e:TypeId} {c:V} {i:Option Nat} {xs:List (List V)} (h:UL H sz e c i xs) {d:Nat} {cs:List V} {ty:TypeId} (hd:H.get d=some (.cells cs ty)):i≠some d:=by
 intro e
 subst e
 obtain ⟨v,_,h2⟩:=h
 rw [hd] at h2
 cases h2
theorem WS.opened {bs:List Blk} {bm:Nat} {i0:Option Nat} {H H':Hp} {S S':List (E×Nat)} {ps:List Part} {m:Mk} (h:WS bs bm i0 H S ps m)
  (hes:∀ e∈H.edges,e∈H'.edges) {co c':V} {io i':Option Nat} (a1:H.get (bs.length+2)=some (.cells [co] 86)) (a2:UL H 11 92 co io (S.reverse.map frC)) (a3:∀ j,io=some j→bs.length≤j)
  (h1:H'.get (bs.length+2)=some (.cells [c'] 86)) (h2:UL H' 11 92 c' i' (S'.reverse.map frC))
  (hi:∀ j,i'=some j→io=some j∨H.blks.length≤j) (hf:Frm H H' (fun d=>d=bs.length+2∨io=some d)):WS bs bm i0 H' S' ps m∧Kp bs.length bm H H':=by
 obtain ⟨cd,id,b1,b2,b3⟩:=h.dn
 obtain ⟨im,⟨cm,k1,k2,k3⟩,k4⟩:=h.mkr
 have hlen:=h.len
 have hio:∀ d,io=some d→bs.length≤d∧∃ v cs,H.get d=some (.ul v 11 cs 92):=fun d hd=>by
  subst hd
  obtain ⟨v,_,g⟩:=a2
  exact ⟨a3 d rfl,v,_,g⟩
 have hkc:∀ d cs ty,d≠bs.length+2→H.get d=some (.cells cs ty)→H'.get d=some (.cells cs ty):=fun d cs ty hd hg=>hf.some hg fun hc=>by
  rcases hc with rfl|hc
  ·exact hd rfl
  ·obtain ⟨_,v,cs',g⟩:=hio d hc
   rw [hg] at g;cases g
 have hku:∀ d v sz cs e,e≠92→H.get d=some (.ul v sz cs e)→H'.get d=some (.ul v sz cs e):=fun d v sz cs e he hg=>hf.some hg fun hc=>by
  rcases hc with rfl|hc
  ·rw [a1] at hg;cases hg
  ·obtain ⟨_,v',cs',g⟩:=hio d hc
   rw [hg] at g
   injection g with g
   injection g with _ _ _ g
   exact he g
 have hkU:∀ {sz e c i xs},e≠92→UL H sz e c i xs→UL H' sz e c i xs:=fun {sz e c i xs} he hu=>hu.frame fun j hj=>by
  subst hj
  obtain ⟨v,_,g⟩:=hu
  rw [g,hku _ _ _ _ _ he g]
 refine ⟨⟨Nat.le_trans hlen hf.len,h.lt,⟨c',i',h1,h2,fun j hj=>?_⟩,⟨cd,id,hkc _ _ _ (by omega) b1,hkU (by decide) b2,b3⟩,⟨im,⟨cm,hkc _ _ _ (by have:=h.lt;omega) k1,hkU (by decide) k2,fun j hj hn=>⟨(k3 j hj hn).1,hes _ (k3 j hj hn).2⟩⟩,k4⟩,fun d hd hdm hdi=>?_⟩,fun d cs ty _ h2 _ hg=>hkc d cs ty h2 hg⟩
 ·rcases hi j hj with hc|hc
  ·exact (hio j hc).1
  ·omega
 ·rw [← h.fr d hd hdm hdi]
  refine hf.get d (by omega) fun hc=>?_
  rcases hc with rfl|hc
  ·omega
  ·have:=(hio d hc).1;omega
theorem WS.dned {bs:List Blk} {bm:Nat} {i0:Option Nat} {H H':Hp} {S:List (E×Nat)} {ps ps':List Part} {m:Mk} (h:WS bs bm i0 H S ps m)
  (hes:∀ e∈H.edges,e∈H'.edges) {co c':V} {io i':Option Nat} (a1:H.get (bs.length+3)=some (.cells [co] 89)) (a2:UL H 39 62 co io (ps.reverse.map partC)) (a3:∀ j,io=some j→bs.length≤j)
  (h1:H'.get (bs.length+3)=some (.cells [c'] 89)) (h2:UL H' 39 62 c' i' (ps'.reverse.map partC))
  (hi:∀ j,i'=some j→io=some j∨H.blks.length≤j) (hf:Frm H H' (fun d=>d=bs.length+3∨io=some d)):WS bs bm i0 H' S ps' m∧Kp bs.length bm H H':=by
 obtain ⟨cd,id,b1,b2,b3⟩:=h.op
 obtain ⟨im,⟨cm,k1,k2,k3⟩,k4⟩:=h.mkr
 have hlen:=h.len
 have hio:∀ d,io=some d→bs.length≤d∧∃ v cs,H.get d=some (.ul v 39 cs 62):=fun d hd=>by
  subst hd
  obtain ⟨v,_,g⟩:=a2
  exact ⟨a3 d rfl,v,_,g⟩
 have hkc:∀ d cs ty,d≠bs.length+3→H.get d=some (.cells cs ty)→H'.get d=some (.cells cs ty):=fun d cs ty hd hg=>hf.some hg fun hc=>by
  rcases hc with rfl|hc
  ·exact hd rfl
  ·obtain ⟨_,v,cs',g⟩:=hio d hc
   rw [hg] at g;cases g
 have hku:∀ d v sz cs e,e≠62→H.get d=some (.ul v sz cs e)→H'.get d=some (.ul v sz cs e):=fun d v sz cs e he hg=>hf.some hg fun hc=>by
  rcases hc with rfl|hc
  ·rw [a1] at hg;cases hg
  ·obtain ⟨_,v',cs',g⟩:=hio d hc
   rw [hg] at g
   injection g with g
   injection g with _ _ _ g
   exact he g
 have hkU:∀ {sz e c i xs},e≠62→UL H sz e c i xs→UL H' sz e c i xs:=fun {sz e c i xs} he hu=>hu.frame fun j hj=>by
  subst hj
  obtain ⟨v,_,g⟩:=hu
  rw [g,hku _ _ _ _ _ he g]
 refine ⟨⟨Nat.le_trans hlen hf.len,h.lt,⟨cd,id,hkc _ _ _ (by omega) b1,hkU (by decide) b2,b3⟩,⟨c',i',h1,h2,fun j hj=>?_⟩,⟨im,⟨cm,hkc _ _ _ (by have:=h.lt;omega) k1,hkU (by decide) k2,fun j hj hn=>⟨(k3 j hj hn).1,hes _ (k3 j hj hn).2⟩⟩,k4⟩,fun d hd hdm hdi=>?_⟩,fun d cs ty _ _ h3 hg=>hkc d cs ty h3 hg⟩
 ·rcases hi j hj with hc|hc
  ·exact (hio j hc).1
  ·omega
 ·rw [← h.fr d hd hdm hdi]
  refine hf.get d (by omega) fun hc=>?_
  rcases hc with rfl|hc
  ·omega
  ·have:=(hio d hc).1;omega
theorem WS.made {bs:List Blk} {bm:Nat} {i0:Option Nat} {H H':Hp} {S:List (E×Nat)} {ps:List Part} {m m':Mk} (h:WS bs bm i0 H S ps m)
  {i i':Option Nat} (k0:NewB bs.length i0 i) (hm:MK bs.length H bm m i) (hm':MK bs.length H' bm m' i') (hn:NewB H.blks.length i i')
  (hf:Frm H H' (fun d=>d=bm∨i=some d)):WS bs bm i0 H' S ps m'∧Kp bs.length bm H H':=by
 obtain ⟨co,io,a1,a2,a3⟩:=h.op
 obtain ⟨cd,id,b1,b2,b3⟩:=h.dn
 obtain ⟨cm,k1,k2,k3⟩:=hm
 have hlen:=h.len
 have hlt:=h.lt
 have hio:∀ d,i=some d→∃ v cs,H.get d=some (.ul v 19 cs 60):=fun d hd=>by
  subst hd
  obtain ⟨v,_,g⟩:=k2
  exact ⟨v,_,g⟩
 have hkc:∀ d cs ty,d≠bm→H.get d=some (.cells cs ty)→H'.get d=some (.cells cs ty):=fun d cs ty hd hg=>hf.some hg fun hc=>by
  rcases hc with rfl|hc
  ·exact hd rfl
  ·obtain ⟨v,cs',g⟩:=hio d hc
   rw [hg] at g;cases g
 have hku:∀ d v sz cs e,e≠60→H.get d=some (.ul v sz cs e)→H'.get d=some (.ul v sz cs e):=fun d v sz cs e he hg=>hf.some hg fun hc=>by
  rcases hc with rfl|hc
  ·rw [k1] at hg;cases hg
  ·obtain ⟨v',cs',g⟩:=hio d hc
   rw [hg] at g
   injection g with g
   injection g with _ _ _ g
   exact he g
 have hkU:∀ {sz e c i xs},e≠60→UL H sz e c i xs→UL H' sz e c i xs:=fun {sz e c i xs} he hu=>hu.frame fun j hj=>by
  subst hj
  obtain ⟨v,_,g⟩:=hu
  rw [g,hku _ _ _ _ _ he g]
 refine ⟨⟨Nat.le_trans hlen hf.len,hlt,⟨co,io,hkc _ _ _ (by omega) a1,hkU (by decide) a2,a3⟩,⟨cd,id,hkc _ _ _ (by omega) b1,hkU (by decide) b2,b3⟩,⟨i',hm',?_⟩,fun d hd hdm hdi=>?_⟩,fun d cs ty h1 _ _ hg=>hkc d cs ty h1 hg⟩
 ·rcases hn with rfl|⟨rfl,j,rfl,hj⟩
  ·exact k0
  ·rcases k0 with rfl|⟨rfl,j',h1,_⟩
   ·exact .inr ⟨rfl,j,rfl,by omega⟩
   ·cases h1
 ·rw [← h.fr d hd hdm hdi]
  refine hf.get d (by omega) fun hc=>?_
  rcases hc with rfl|hc
  ·exact hdm rfl
  ·rcases k0 with rfl|⟨rfl,j',h1,h2⟩
   ·exact hdi hc
   ·rw [h1] at hc;cases hc;omega
theorem WS.push {bs:List Blk} {bm:Nat} {i0:Option Nat} {H:Hp} {S:List (E×Nat)} {ps:List Part} {m:Mk} (h:WS bs bm i0 H S ps m) {x:Blk}:WS bs bm i0 (H.push x) S ps m∧Kp bs.length bm H (H.push x):=by
 have hf:Frm H (H.push x) (fun _=>False):=⟨by rw [len_push];omega,fun d hd _=>push_lt hd⟩
 obtain ⟨co,io,a1,a2,a3⟩:=h.op
 refine h.opened (fun e he=>he) a1 a2 a3 (hf.some a1 id) (a2.frame fun j hj=>?_) (fun j hj=>.inl hj) (hf.mono fun _ _ h=>h.elim)
 subst hj
 exact push_lt a2.lt
theorem WS.setc {bs:List Blk} {bm:Nat} {i0:Option Nat} {H:Hp} {S:List (E×Nat)} {ps:List Part} {m:Mk} (h:WS bs bm i0 H S ps m) {b:Nat} {cs cs':List V} {ty ty':TypeId} (hb:H.get b=some (.cells cs ty)) (h0:bs.length≤b) (h2:b≠bs.length+2) (h3:b≠bs.length+3):WS bs bm i0 (H.set b (.cells cs' ty')) S ps m:=by
 obtain ⟨co,io,a1,a2,a3⟩:=h.op
 obtain ⟨cd,id,b1,b2,b3⟩:=h.dn
 obtain ⟨im,⟨cm,k1,k2,k3⟩,k4⟩:=h.mkr
 have hlt:=h.lt
 have hkU:∀ {sz e c i xs},UL H sz e c i xs→UL (H.set b (.cells cs' ty')) sz e c i xs:=fun {sz e c i xs} hu=>hu.frame fun j hj=>set_ne fun e=>by
  subst hj e
  obtain ⟨v,_,g⟩:=hu
  rw [hb] at g;cases g
 exact ⟨by rw [len_set];exact h.len,hlt,⟨co,io,(set_ne (Ne.symm h2)).trans a1,hkU a2,a3⟩,⟨cd,id,(set_ne (Ne.symm h3)).trans b1,hkU b2,b3⟩,⟨im,⟨cm,(set_ne (by omega)).trans k1,hkU k2,k3⟩,k4⟩,fun d hd hdm hdi=>(set_ne (by omega)).trans (h.fr d hd hdm hdi)⟩
end Go.Proofs.YtkbdcmehffmfpaaGreatDoor
namespace Go.Proofs.YtkbdcmehffmfpaaGreatDoor
set_option maxRecDepth 100000
open Go Go.Vm
variable {gl:Gl}
noncomputable abbrev cxw (gl:Gl) (n:Nat):Cx:=⟨Tryz.prog,gl.g,callA Tryz.prog gl n,uqw⟩
variable {bs:List Blk} {bm:Nat} {i0:Option Nat} {H:Hp} {S:List (E×Nat)} {ps:List Part} {m:Mk}
theorem room_s {k:Nat} (h:k<2 ^ 32):roomA (k+1) 112=true:=roomA_of (by omega) (by omega)
theorem room_p {k:Nat} (h:k<2 ^ 32):roomA (k+1) 312=true:=roomA_of (by omega) (by omega)
theorem WS.pushO (hg:GW gl) {n:Nat} (hn:1≤n) (h:WS bs bm i0 H S ps m) (f:E×Nat) (hr:S.length<2 ^ 32) :
  ∃ H',(cxw gl n).callF 31 [.ptr (bs.length+2) 0,.agg (frC f)] H=some (.val (.tup []),H')∧WS bs bm i0 H' (f::S) ps m∧Kp bs.length bm H H':=by
 obtain ⟨co,io,a1,a2,a3⟩:=h.op
 obtain ⟨H',c',j,h1,h2,h3,h4,h5,h6⟩:=push92 hg (n:=n - 1) a1 a2 (UL_ndH a2 a1) (frC_len f) (frC_clr f) (by rw [List.length_map,List.length_reverse];exact room_s hr)
 rw [show n - 1+1=n by omega] at h1
 have:=h.opened (S':=f::S) (callA_es hg.hk2 h1) a1 a2 a3 h2 (by simpa using h3) (fun k hk=>by cases hk;exact h5) h6
 exact ⟨H',callF_run Tryz.func31 rfl h1,this.1,this.2⟩
theorem WS.popO (hg:GW gl) {n:Nat} (hn:1≤n) {f:E×Nat} (h:WS bs bm i0 H (f::S) ps m) (hr:S.length<2 ^ 32) :
  ∃ H',(cxw gl n).callF 33 [.ptr (bs.length+2) 0] H=some (.val (.agg (frC f)),H')∧WS bs bm i0 H' S ps m∧Kp bs.length bm H H':=by
 obtain ⟨co,io,a1,a2,a3⟩:=h.op
 obtain ⟨j,rfl⟩:∃ j,io=some j:=by
  cases io with
  | none=>exact absurd a2.2 (by simp)
  | some j=>exact ⟨j,rfl⟩
 have a2':UL H 11 92 co (some j) (S.reverse.map frC++[frC f]):=by simpa using a2
 obtain ⟨H',c',h1,h2,h3,h6⟩:=pop92 hg (n:=n - 1) a1 a2' (fun e=>UL_ndH a2 a1 (by rw [e])) (frC_len f) (frC_clr f) (frC_tops f) (fun y hy=>by obtain ⟨z,_,rfl⟩:=List.mem_map.1 hy;exact frC_len z) (by rw [List.length_map,List.length_reverse];omega)
 rw [show n - 1+1=n by omega] at h1
 have:=h.opened (S':=S) (callA_es hg.hk2 h1) a1 a2 a3 h2 h3 (fun k hk=>.inl hk) (h6.mono fun d _ hd=>by rcases hd with h|h;exact .inl h;exact .inr (by rw [h]))
 exact ⟨H',callF_run Tryz.func33 rfl h1,this.1,this.2⟩
theorem WS.pushD (hg:GW gl) {n:Nat} (hn:1≤n) (h:WS bs bm i0 H S ps m) (p:Part) (hr:ps.length<2 ^ 32) :
  ∃ H',(cxw gl n).callF 34 [.ptr (bs.length+3) 0,.agg (partC p)] H=some (.val (.tup []),H')∧WS bs bm i0 H' S (p::ps) m∧Kp bs.length bm H H':=by
 obtain ⟨co,io,a1,a2,a3⟩:=h.dn
 obtain ⟨H',c',j,h1,h2,h3,h4,h5,h6⟩:=push62 hg (n:=n - 1) a1 a2 (UL_ndH a2 a1) partC_len partC_clr (by rw [List.length_map,List.length_reverse];exact room_p hr)
 rw [show n - 1+1=n by omega] at h1
 have:=h.dned (ps':=p::ps) (callA_es hg.hk2 h1) a1 a2 a3 h2 (by simpa using h3) (fun k hk=>by cases hk;exact h5) h6
 exact ⟨H',callF_run Tryz.func34 rfl h1,this.1,this.2⟩
theorem WS.popD (hg:GW gl) {n:Nat} (hn:1≤n) {p:Part} (h:WS bs bm i0 H S (p::ps) m) (hr:ps.length<2 ^ 32) :
  ∃ H',(cxw gl n).callF 36 [.ptr (bs.length+3) 0] H=some (.val (.agg (partC p)),H')∧WS bs bm i0 H' S ps m∧Kp bs.length bm H H':=by
 obtain ⟨co,io,a1,a2,a3⟩:=h.dn
 obtain ⟨j,rfl⟩:∃ j,io=some j:=by
  cases io with
  | none=>exact absurd a2.2 (by simp)
  | some j=>exact ⟨j,rfl⟩
 have a2':UL H 39 62 co (some j) (ps.reverse.map partC++[partC p]):=by simpa using a2
 obtain ⟨H',c',h1,h2,h3,h6⟩:=pop62 hg (n:=n - 1) a1 a2' (fun e=>UL_ndH a2 a1 (by rw [e])) partC_len partC_clr partC_tops (fun y hy=>by obtain ⟨z,_,rfl⟩:=List.mem_map.1 hy;exact partC_len) (by rw [List.length_map,List.length_reverse];omega)
 rw [show n - 1+1=n by omega] at h1
 have:=h.dned (ps':=ps) (callA_es hg.hk2 h1) a1 a2 a3 h2 h3 (fun k hk=>.inl hk) (h6.mono fun d _ hd=>by rcases hd with h|h;exact .inl h;exact .inr (by rw [h]))
 exact ⟨H',callF_run Tryz.func36 rfl h1,this.1,this.2⟩
theorem WS.emp (hg:GW gl) {n:Nat} (hn:1≤n) (h:WS bs bm i0 H S ps m):(cxw gl n).callF 32 [.ptr (bs.length+2) 0] H=some (.val (.bool S.isEmpty),H):=by
 obtain ⟨co,io,a1,a2,a3⟩:=h.op
 obtain ⟨b,e⟩:=H
 have h1:=empty_run hg (n:=n - 1) (es:=e) a1 a2
 rw [show n - 1+1=n by omega] at h1
 have:(S.reverse.map frC).isEmpty=S.isEmpty:=by cases S<;>simp
 rw [this] at h1
 exact callF_run Tryz.func32 rfl h1
structure Mk.Ok (m:Mk):Prop where
 r:m.rules.length=m.sets.length
 n:m.next.length=m.sets.length
theorem WS.leaf (hg:GW gl) {n:Nat} (hn:2≤n) (h:WS bs bm i0 H S ps m) (hok:m.Ok) (hs:m.sets.length<1216) {op pl s0 s1 s2 s3 mn mx r:Int} {text:List Nat} {nl:Bool} {args:List E} :
  ∃ H',(cxw gl n).callF 35 [.ptr bm 0,enc (.mk op pl s0 s1 s2 s3 text mn mx nl args),.int .i64 r] H=some (.val (.agg (partC (leafM op (s0,s1,s2,s3) r m).1)),H')∧WS bs bm i0 H' S ps (leafM op (s0,s1,s2,s3) r m).2∧Kp bs.length bm H H':=by
 obtain ⟨i,k1,k2⟩:=h.mkr
 obtain ⟨H',i',h1,h2,h3,h4⟩:=leaf_run hg (n:=n - 2) (r:=r) (op:=op) (pl:=pl) (s0:=s0) (s1:=s1) (s2:=s2) (s3:=s3) (mn:=mn) (mx:=mx) (text:=text) (nl:=nl) (args:=args) k1 (by have:=h.len;omega) hs (by rw [hok.r];exact hs) (by rw [hok.n];exact hs)
 rw [show n - 2+2=n by omega] at h1
 have:=h.made k2 k1 h2 h3 h4
 exact ⟨H',callF_run Tryz.func35 rfl h1,this.1,this.2⟩
theorem setU_frm {bs:List Blk} {es:List (Nat×Nat)} {i:Option Nat} {ns:List (Nat→Bool)} {bm:Nat}:Frm ⟨bs,es⟩ ⟨setU bs i ns,es⟩ (fun d=>d=bm∨i=some d) :=
 ⟨by rw [setU_len];exact Nat.le_refl _,fun d _ hd=>setU_ne fun e=>hd (.inr e)⟩
theorem MK.setU {bs:List Blk} {es:List (Nat×Nat)} {n0 bm:Nat} {m:Mk} {i:Option Nat} (h:MK n0 ⟨bs,es⟩ bm m i) {ns:List (Nat→Bool)} (hl:ns.length=m.next.length):MK n0 ⟨setU bs i ns,es⟩ bm { m with next:=ns } i:=by
 obtain ⟨c,h1,h2,h3⟩:=h
 exact ⟨c,(setU_ne (UL_nd h2 h1)).trans h1,setU_ul h2 hl,h3⟩
theorem joinedM_len {op:Int} {k:Nat} {a b:Part} {ns:List (Nat→Bool)}:(joinedM op k a b ns).2.length=ns.length:=by
 unfold joinedM
 split
 ·rfl
 ·split
  ·rfl
  ·simp only [fol_len]
theorem repM_len {mn mx:Int} {p:Part} {ns:List (Nat→Bool)}:(repM mn mx p ns).2.length=ns.length:=by
 unfold repM
 simp only
 split
 ·simp only [fol_len]
 ·rfl
theorem WS.joined (hg:GW gl) {n:Nat} (hn:1302≤n) (h:WS bs bm i0 H S ps m) {op:Int} {k:Nat} {a b:Part} (hk:k<2 ^ 60) (hmem:∀ k∈preN a.last 19,k<m.next.length) :
  ∃ H',(cxw gl n).callF 37 [.ptr bm 0,.int .i64 op,.int .i64 k,.agg (partC a),.agg (partC b)] H=some (.val (.agg (partC (joinedM op k a b m.next).1)),H')∧WS bs bm i0 H' S ps { m with next:=(joinedM op k a b m.next).2 }∧Kp bs.length bm H H':=by
 obtain ⟨i,k1,k2⟩:=h.mkr
 obtain ⟨b',e'⟩:=H
 obtain ⟨c,g1,g2,g3⟩:=k1
 have h1:=joined_run hg (n:=n - 1) (by omega) (es:=e') (op:=op) (b:=b) hk g1 g2 hmem
 rw [show n - 1+1=n by omega] at h1
 have:=h.made k2 ⟨c,g1,g2,g3⟩ (MK.setU (es:=e') ⟨c,g1,g2,g3⟩ (joinedM_len (op:=op) (k:=k) (a:=a) (b:=b))) (.inl rfl) setU_frm
 exact ⟨_,callF_run Tryz.func37 rfl h1,this.1,this.2⟩
theorem WS.repeated (hg:GW gl) {n:Nat} (hn:1302≤n) (h:WS bs bm i0 H S ps m) {op pl s0 s1 s2 s3 mn mx:Int} {text:List Nat} {nl:Bool} {args:List E} {p:Part} (hmem:∀ k∈preN p.last 19,k<m.next.length) :
  ∃ H',(cxw gl n).callF 38 [.ptr bm 0,enc (.mk op pl s0 s1 s2 s3 text mn mx nl args),.agg (partC p)] H=some (.val (.agg (partC (repM mn mx p m.next).1)),H')∧WS bs bm i0 H' S ps { m with next:=(repM mn mx p m.next).2 }∧Kp bs.length bm H H':=by
 obtain ⟨i,k1,k2⟩:=h.mkr
 obtain ⟨b',e'⟩:=H
 obtain ⟨c,g1,g2,g3⟩:=k1
 have h1:=repeated_run hg (n:=n - 1) (by omega) (es:=e') (op:=op) (pl:=pl) (s0:=s0) (s1:=s1) (s2:=s2) (s3:=s3) (mn:=mn) (mx:=mx) (text:=text) (nl:=nl) (args:=args) g1 g2 hmem
 rw [show n - 1+1=n by omega] at h1
 have:=h.made k2 ⟨c,g1,g2,g3⟩ (MK.setU (es:=e') ⟨c,g1,g2,g3⟩ (repM_len (mn:=mn) (mx:=mx) (p:=p))) (.inl rfl) setU_frm
 exact ⟨_,callF_run Tryz.func38 rfl h1,this.1,this.2⟩
end Go.Proofs.YtkbdcmehffmfpaaGreatDoor
namespace Go.Proofs.YtkbdcmehffmfpaaGreatDoor
set_option maxRecDepth 100000
open Go Go.Vm
def p0:Part:=⟨false,noP,noP⟩
def fin7 (op mn mx:Int) (x:Part×Mk):Part×Mk:=if op=7 then ((repM mn mx x.1 x.2.next).1,{ x.2 with next:=(repM mn mx x.1 x.2.next).2 }) else x
mutual
def wkE (r:Int):E→Mk→Part×Mk
 | .mk op _ s0 s1 s2 s3 _ mn mx _ args,m=>match args with
  | []=>leafM op (s0,s1,s2,s3) r m
  | a::tl=>fin7 op mn mx (wkL r op 0 p0 (a::tl) m)
def wkL (r:Int) (op:Int):Nat→Part→List E→Mk→Part×Mk
 | _,a,[],m=>(a,m)
 | k,a,e::es,m=>wkL r op (k+1) (joinedM op k a (wkE r e m).1 (wkE r e m).2.next).1 es { (wkE r e m).2 with next:=(joinedM op k a (wkE r e m).1 (wkE r e m).2.next).2 }
end
def wkF (r:Int):E×Nat→List Part→Mk→Option (List Part×Mk)
 | (.mk op _pl s0 s1 s2 s3 _tx _mn _mx _nl [],_d),ps,m=>some ((leafM op (s0,s1,s2,s3) r m).1::ps,(leafM op (s0,s1,s2,s3) r m).2)
 | (.mk op pl s0 s1 s2 s3 tx mn mx nl (a::tl),0),ps,m=>some ((wkE r (.mk op pl s0 s1 s2 s3 tx mn mx nl (a::tl)) m).1::ps,(wkE r (.mk op pl s0 s1 s2 s3 tx mn mx nl (a::tl)) m).2)
 | (.mk op _pl _s0 _s1 _s2 _s3 _tx mn mx _nl (a::tl),d+1),b::x::ps,m =>
  some ((fin7 op mn mx (wkL r op (d+1) (joinedM op d x b m.next).1 ((a::tl).drop (d+1)) { m with next:=(joinedM op d x b m.next).2 })).1::ps,(fin7 op mn mx (wkL r op (d+1) (joinedM op d x b m.next).1 ((a::tl).drop (d+1)) { m with next:=(joinedM op d x b m.next).2 })).2)
 | (.mk _ _ _ _ _ _ _ _ _ _ (_::_),_+1),_,_=>none
def den (r:Int):List (E×Nat)→List Part→Mk→Option (List Part×Mk)
 | [],ps,m=>some (ps,m)
 | f::S,ps,m=>match wkF r f ps m with
  | some (ps',m')=>den r S ps' m'
  | none=>none
theorem wkF_zero {r:Int} {e:E} {ps:List Part} {m:Mk}:wkF r (e,0) ps m=some ((wkE r e m).1::ps,(wkE r e m).2):=by
 obtain ⟨op,pl,s0,s1,s2,s3,tx,mn,mx,nl,args⟩:=e
 cases args with
 | nil=>simp only [wkF,wkE]
 | cons a tl=>simp only [wkF]
variable {r op pl s0 s1 s2 s3 mn mx:Int} {tx:List Nat} {nl:Bool} {args:List E} {S:List (E×Nat)} {ps:List Part} {m:Mk} {d:Nat}
theorem wkF_more {a:E} {tl:List E} {b x:Part}:wkF r (.mk op pl s0 s1 s2 s3 tx mn mx nl (a::tl),d+1) (b::x::ps) m=some ((fin7 op mn mx (wkL r op (d+1) (joinedM op d x b m.next).1 ((a::tl).drop (d+1)) { m with next:=(joinedM op d x b m.next).2 })).1::ps,(fin7 op mn mx (wkL r op (d+1) (joinedM op d x b m.next).1 ((a::tl).drop (d+1)) { m with next:=(joinedM op d x b m.next).2 })).2):=rfl
theorem den_cons {f:E×Nat} {y:List Part×Mk} (h:wkF r f ps m=some y):den r (f::S) ps m=den r S y.1 y.2:=by simp only [den,h]
theorem wkE_cons {a:E} {tl:List E}:wkE r (.mk op pl s0 s1 s2 s3 tx mn mx nl (a::tl)) m=fin7 op mn mx (wkL r op 0 p0 (a::tl) m):=by simp only [wkE]
theorem wkL_cons {e:E} {es:List E} {k:Nat} {a:Part}:wkL r op k a (e::es) m=wkL r op (k+1) (joinedM op k a (wkE r e m).1 (wkE r e m).2.next).1 es { (wkE r e m).2 with next:=(joinedM op k a (wkE r e m).1 (wkE r e m).2.next).2 }:=by simp only [wkL]
theorem wkL_nil {k:Nat} {a:Part}:wkL r op k a [] m=(a,m):=by simp only [wkL]
theorem den_leaf:den r ((.mk op pl s0 s1 s2 s3 tx mn mx nl [],d)::S) ps m=den r S ((leafM op (s0,s1,s2,s3) r m).1::ps) (leafM op (s0,s1,s2,s3) r m).2:=by
 cases d with
 | zero=>exact den_cons (y:=(_,_)) (by simp only [wkF])
 | succ d=>exact den_cons (y:=(_,_)) (by simp only [wkF])
theorem den_zero {a:E} {tl:List E}:den r ((.mk op pl s0 s1 s2 s3 tx mn mx nl (a::tl),0)::S) ps m=den r ((a,0)::(.mk op pl s0 s1 s2 s3 tx mn mx nl (a::tl),1)::S) (p0::ps) m:=by
 rw [den_cons wkF_zero,den_cons wkF_zero,den_cons (wkF_more (d:=0)),wkE_cons,wkL_cons]
 rfl
theorem den_more {a:E} {tl:List E} {x b:Part} {c:E} (hc:(a::tl)[d+1]?=some c) :
  den r ((.mk op pl s0 s1 s2 s3 tx mn mx nl (a::tl),d+1)::S) (b::x::ps) m=den r ((c,0)::(.mk op pl s0 s1 s2 s3 tx mn mx nl (a::tl),d+2)::S) ((joinedM op d x b m.next).1::ps) { m with next:=(joinedM op d x b m.next).2 }:=by
 obtain ⟨hlt,hcv⟩:=List.getElem?_eq_some_iff.1 hc
 have hdr:(a::tl).drop (d+1)=c::(a::tl).drop (d+2):=by rw [List.drop_eq_getElem_cons hlt,hcv]
 rw [den_cons wkF_more,den_cons wkF_zero,den_cons (wkF_more (d:=d+1)),hdr,wkL_cons]
theorem den_end {a:E} {tl:List E} {x b:Part} (hd:(a::tl).length≤d+1) :
  den r ((.mk op pl s0 s1 s2 s3 tx mn mx nl (a::tl),d+1)::S) (b::x::ps) m=den r S ((fin7 op mn mx ((joinedM op d x b m.next).1,{ m with next:=(joinedM op d x b m.next).2 })).1::ps) (fin7 op mn mx ((joinedM op d x b m.next).1,{ m with next:=(joinedM op d x b m.next).2 })).2:=by
 rw [den_cons wkF_more,List.drop_eq_nil_of_le hd,wkL_nil]
theorem leafM_grow {q:Int×Int×Int×Int}:m.sets.length≤(leafM op q r m).2.sets.length:=by
 unfold leafM;split<;>simp
theorem fin7_sets {x:Part×Mk}:(fin7 op mn mx x).2.sets=x.2.sets:=by
 unfold fin7;split<;>rfl
mutual
theorem wkE_grow:∀ (e:E) (m:Mk),m.sets.length≤(wkE r e m).2.sets.length
 | .mk op _ s0 s1 s2 s3 _ mn mx _ [],m=>by simp only [wkE];exact leafM_grow
 | .mk op _ s0 s1 s2 s3 _ mn mx _ (a::tl),m=>by
  simp only [wkE,fin7_sets]
  exact wkL_grow (a::tl) op 0 p0 m
theorem wkL_grow:∀ (es:List E) (op:Int) (k:Nat) (a:Part) (m:Mk),m.sets.length≤(wkL r op k a es m).2.sets.length
 | [],op,k,a,m=>by simp only [wkL];exact Nat.le_refl _
 | e::es,op,k,a,m=>by
  simp only [wkL]
  exact Nat.le_trans (wkE_grow e m) (wkL_grow es op (k+1) (joinedM op k a (wkE r e m).1 (wkE r e m).2.next).1 { (wkE r e m).2 with next:=(joinedM op k a (wkE r e m).1 (wkE r e m).2.next).2 })
end
theorem wkF_grow {f:E×Nat} {ps':List Part} {m':Mk} (h:wkF r f ps m=some (ps',m')):m.sets.length≤m'.sets.length:=by
 unfold wkF at h
 split at h<;>simp only [Option.some.injEq,Prod.mk.injEq,reduceCtorEq] at h
 ·rw [← h.2];exact leafM_grow
 ·rw [← h.2];exact wkE_grow _ _
 ·rw [← h.2,fin7_sets]
  refine Nat.le_trans (Nat.le_of_eq ?_) (wkL_grow _ _ _ _ _)
  rfl
theorem den_grow:∀ {S:List (E×Nat)} {ps:List Part} {m:Mk} {y:List Part×Mk},den r S ps m=some y→m.sets.length≤y.2.sets.length
 | [],_,_,_,h=>by simp only [den,Option.some.injEq] at h;rw [← h];exact Nat.le_refl _
 | f::S,ps,m,y,h=>by
  simp only [den] at h
  split at h
  ·rename_i ps' m' he
   exact Nat.le_trans (wkF_grow he) (den_grow h)
  ·cases h
def PIn (n:Nat) (p:Part):Prop:=(∀ x∈preN p.first 19,x<n)∧(∀ x∈preN p.last 19,x<n)
theorem PIn.mono {n n':Nat} {p:Part} (h:PIn n p) (hn:n≤n'):PIn n' p:=⟨fun x hx=>Nat.lt_of_lt_of_le (h.1 x hx) hn,fun x hx=>Nat.lt_of_lt_of_le (h.2 x hx) hn⟩
theorem pin_no {n:Nat} {b:Bool}:PIn n ⟨b,noP,noP⟩:=by
 constructor<;>(intro x hx;rw [mem_preN] at hx;simp [noP] at hx)
theorem in_join {n:Nat} {p q:Nat→Bool} (hp:∀ x∈preN p 19,x<n) (hq:∀ x∈preN q 19,x<n):∀ x∈preN (joinP p q) 19,x<n:=by
 intro x hx
 rw [mem_preN] at hx
 obtain ⟨h1,h2⟩:=hx
 simp only [joinP,Bool.or_eq_true] at h2
 rcases h2 with h|h
 ·exact hp x (mem_preN.2 ⟨h1,h⟩)
 ·exact hq x (mem_preN.2 ⟨h1,h⟩)
theorem in_add {n k:Nat} (h:k<n):∀ x∈preN (addP noP k) 19,x<n:=by
 intro x hx
 rw [mem_preN] at hx
 have:=hx.2
 simp [addP,noP] at this
 omega
theorem leafM_ok {q:Int×Int×Int×Int} (h:m.Ok):(leafM op q r m).2.Ok∧PIn (leafM op q r m).2.next.length (leafM op q r m).1:=by
 unfold leafM
 split
 ·exact ⟨h,pin_no⟩
 ·refine ⟨⟨by simp [h.r],by simp [h.n]⟩,?_⟩
  constructor<;>exact in_add (by simp [h.n])
theorem joinedM_in {n:Nat} {k:Nat} {a b:Part} {ns:List (Nat→Bool)} (ha:PIn n a) (hb:PIn n b):PIn n (joinedM op k a b ns).1:=by
 unfold joinedM
 split
 ·exact hb
 ·split
  ·exact ⟨in_join ha.1 hb.1,in_join ha.2 hb.2⟩
  ·refine ⟨?_,?_⟩
   ·simp only
    split
    ·exact in_join ha.1 hb.1
    ·exact ha.1
   ·simp only
    split
    ·exact in_join ha.2 hb.2
    ·exact hb.2
theorem repM_in {n:Nat} {p:Part} {ns:List (Nat→Bool)} (h:PIn n p):PIn n (repM mn mx p ns).1:=h
mutual
def wE:E→Nat
 | .mk _ _ _ _ _ _ _ _ _ _ args=>3+wLs args
def wLs:List E→Nat
 | []=>0
 | e::es=>wE e+2+wLs es
end
def wF:E×Nat→Nat
 | (e,0)=>wE e
 | (.mk _ _ _ _ _ _ _ _ _ _ args,d+1)=>1+wLs (args.drop (d+1))
def wS:List (E×Nat)→Nat
 | []=>0
 | f::S=>wF f+wS S
theorem wF_pos (f:E×Nat):1≤wF f:=by
 obtain ⟨⟨op,pl,s0,s1,s2,s3,tx,mn,mx,nl,args⟩,d⟩:=f
 cases d<;>simp only [wF,wE]<;>omega
theorem wS_zero {a:E} {tl:List E}:wS ((a,0)::(.mk op pl s0 s1 s2 s3 tx mn mx nl (a::tl),1)::S)+4=wS ((.mk op pl s0 s1 s2 s3 tx mn mx nl (a::tl),0)::S):=by
 simp only [wS,wF,wE,wLs,List.drop_succ_cons,List.drop_zero]
 omega
theorem wS_more {c:E} (hc:args[d+1]?=some c):wS ((c,0)::(.mk op pl s0 s1 s2 s3 tx mn mx nl args,d+2)::S)+2=wS ((.mk op pl s0 s1 s2 s3 tx mn mx nl args,d+1)::S):=by
 obtain ⟨hlt,hcv⟩:=List.getElem?_eq_some_iff.1 hc
 have hdr:args.drop (d+1)=c::args.drop (d+2):=by rw [List.drop_eq_getElem_cons hlt,hcv]
 simp only [wS,wF]
 rw [hdr,show d+1+1=d+2 from rfl]
 simp only [wLs]
 omega
end Go.Proofs.YtkbdcmehffmfpaaGreatDoor
namespace Go.Proofs.YtkbdcmehffmfpaaGreatDoor
set_option maxRecDepth 100000
open Go Go.Vm
variable {gl:Gl}
theorem z92:zeroA Tryz.prog 92=some (.agg [.int .i64 0,.int .i64 0,.int .u64 0,.int .u64 0,.int .u64 0,.int .u64 0,.str [],.int .i64 0,.int .i64 0,.snil,.int .i64 0]):=by kernel_rfl
theorem z86:zeroA Tryz.prog 86=some (.agg [.snil]):=by kernel_rfl
theorem z89:zeroA Tryz.prog 89=some (.agg [.snil]):=by kernel_rfl
theorem pl92:(match Tryz.prog.underlying 92 with|some (.struct fs)=>placesA Tryz.prog fs|_=>none)=some [(0,10),(10,1)]:=by kernel_rfl
theorem bld92 {x:Operand} {env:List V} {e:E} (h:peek env x=some (.agg (ecells e))):buildA Tryz.prog 92 #[(0,x)] env=some (.agg (frC (e,0))):=by
 have hp:=pl92
 unfold buildA
 rw [z92]
 cases hu:Tryz.prog.underlying 92 with
 | none=>rw [hu] at hp;cases hp
 | some d =>
  rw [hu] at hp
  cases d<;>simp only at hp<;>try (cases hp;done)
  simp only [hp]
  obtain ⟨op,pl,s0,s1,s2,s3,text,mn,mx,nl,args⟩:=e
  simp [okC,fillA,h,nth,ecells,V.cells,Vm.storeCells,frC]
theorem bld92' {x y:Operand} {env:List V} {e:E} {d:Nat} (h:peek env x=some (.agg (ecells e))) (h':peek env y=some (.int .i64 (d:Int))):buildA Tryz.prog 92 #[(0,x),(1,y)] env=some (.agg (frC (e,d))):=by
 have hp:=pl92
 unfold buildA
 rw [z92]
 cases hu:Tryz.prog.underlying 92 with
 | none=>rw [hu] at hp;cases hp
 | some d =>
  rw [hu] at hp
  cases d<;>simp only at hp<;>try (cases hp;done)
  simp only [hp]
  obtain ⟨op,pl,s0,s1,s2,s3,text,mn,mx,nl,args⟩:=e
  simp [okC,fillA,h,h',nth,ecells,V.cells,Vm.storeCells,frC]
theorem bld62 {env:List V}:buildA Tryz.prog 62 #[] env=some (.agg (partC p0)):=by kernel_rfl
theorem ag43:aggT Tryz.prog 43=some false:=by kernel_rfl
theorem u43:Tryz.prog.underlying 43=some (.slice 45):=by kernel_rfl
theorem fo92_0:fieldOff Tryz.prog 92 0=some 0:=by kernel_rfl
theorem fo92_1:fieldOff Tryz.prog 92 1=some 10:=by kernel_rfl
theorem fo45_6:fieldOff Tryz.prog 45 6=some 9:=by kernel_rfl
theorem lenA_arg {H:Hp} {nl:Bool} {l:List E}:lenA Tryz.prog H 43 (argV nl (encs l))=some (l.length:Int):=by
 rcases argV_cases nl (encs l) with h|⟨h0,h⟩<;>rw [h]
 ·simp [lenA,encs_length]
 ·have:l=[]:=by
   have:=congrArg List.length h0
   rw [encs_length] at this
   exact List.eq_nil_of_length_eq_zero this
  subst this
  simp [lenA]
theorem stPg {H:Hp} {b:Nat} {p q:Part} {env:List V} {lk:List (Nat×Nat)} {df:List (V×List V)} (hg:H.get b=some (.cells (partC q) 62)):storX Tryz.prog 62 H lk df (some (.agg (partC p),env)) (some (.ptr b 0))=some (.skip,⟨env,H.set b (.cells (partC p) 62),lk,df⟩):=by
 rw [storX_ptr (v:=.agg (partC p)) sz62 hg rfl (by simp [V.laid,partC_len]) (by rw [partC_len];decide) (mayA_all partC_unl (by rw [partC_len];decide)),edge0 (by simp [V.top,partC_tops])]
 simp only [V.laid,partC_clr]
 rw [stc_all (by rw [partC_len,partC_len])]
theorem ldPg {H:Hp} {b:Nat} {p:Part} {g:Nat→Nat→Option V} (hg:H.get b=some (.cells (partC p) 62)):loadA Tryz.prog H g 62 (.ptr b 0)=some (.agg (partC p)):=by
 rw [load_agg ag62 sz62 hg (by rw [partC_len];decide),List.drop_zero,List.take_of_length_le (by rw [partC_len];decide)]
def E.args:E→List E
 | .mk _ _ _ _ _ _ _ _ _ _ a=>a
structure EF (bs:List Blk) (bm:Nat) (r:Int) (env:List V):Prop where
 len:env.length=86
 e0:nth env 0=some (.ptr bm 0)
 e2:nth env 2=some (.int .i64 r)
 e6:nth env 6=some (.ptr (bs.length+1) 0)
 e7:nth env 7=some (.ptr (bs.length+2) 0)
 e8:nth env 8=some (.ptr (bs.length+3) 0)
structure WI (bs:List Blk) (bm:Nat) (i0:Option Nat) (r:Int) (P:Part) (M:Mk) (Wm:Nat) (H:Hp) (S:List (E×Nat)) (ps:List Part) (m:Mk):Prop where
 ws:WS bs bm i0 H S ps m
 dn:den r S ps m=some ([P],M)
 pin:∀ p∈ps,PIn m.next.length p
 ok:m.Ok
 wf:∀ f∈S,f.2≤f.1.args.length∧wE f.1≤2 ^ 31
 bd:S.length+ps.length+wS S≤Wm
 res:∃ q,H.get (bs.length+1)=some (.cells (partC q) 62)
theorem stFg {H:Hp} {b:Nat} {f:E×Nat} {cs:List V} {ty:TypeId} {env:List V} {lk:List (Nat×Nat)} {df:List (V×List V)} (hg:H.get b=some (.cells cs ty)) (hl:cs.length=11) (hu:cs.all (fun c=>!(locked c))=true):storX Tryz.prog 92 H lk df (some (.agg (frC f),env)) (some (.ptr b 0))=some (.skip,⟨env,H.set b (.cells (frC f) ty),lk,df⟩):=by
 rw [storX_ptr (v:=.agg (frC f)) sz92 hg rfl (by simp [V.laid,frC_len]) (by rw [hl];decide) (mayA_all hu (by rw [hl];decide)),edge0 (by simp [V.top,frC_tops])]
 simp only [V.laid,frC_clr]
 rw [stc_all (by rw [hl,frC_len])]
theorem ldF {H:Hp} {b d:Nat} {op pl s0 s1 s2 s3 mn mx:Int} {tx:List Nat} {nl:Bool} {args:List E} {g:Nat→Nat→Option V} (hg:H.get b=some (.cells (frC (.mk op pl s0 s1 s2 s3 tx mn mx nl args,d)) 92)) :
  loadA Tryz.prog H g 3 (.ptr b 0)=some (.int .i64 op)∧loadA Tryz.prog H g 43 (.ptr b 9)=some (argV nl (encs args))∧loadA Tryz.prog H g 3 (.ptr b 10)=some (.int .i64 (d:Int))∧loadA Tryz.prog H g 45 (.ptr b 0)=some (.agg (ecells (.mk op pl s0 s1 s2 s3 tx mn mx nl args))) :=
 ⟨load_one ag3 hg rfl,load_one ag43 hg rfl,load_one ag3 hg rfl,by rw [load_agg ag45 sz45 hg (by rw [frC_len];decide)];rfl⟩
theorem idx_arg {nl:Bool} {args:List E} {D:Nat} {c:E} (h:args[D]?=some c):indexAddrA Tryz.prog 43 (argV nl (encs args)) (D:Int)=some (.vp (ecells c)):=by
 have hne:argV nl (encs args)=.sl 10 (encs args) .no:=by
  rcases argV_cases nl (encs args) with h'|⟨h0,h'⟩
  ·exact h'
  ·have:=congrArg List.length h0
   rw [encs_length] at this
   rw [List.eq_nil_of_length_eq_zero this] at h
   simp at h
 have hn:nth (encs args) D=some (enc c):=by rw [nth_eq,encs_get,h];rfl
 have hD:¬ ((D:Int)<0):=by omega
 simp [hne,indexAddrA,sz45,hD,hn,enc_cells,V.cells]
theorem ld_arg {H:Hp} {g:Nat→Nat→Option V} {c:E}:loadA Tryz.prog H g 45 (.vp (ecells c))=some (.agg (ecells c)):=by
 have:(ecells c).take 10=ecells c:=List.take_of_length_le (by rw [ecells_len];decide)
 simp [loadA,partA_eq,ag45,sz45,partO_t,ecells_len,this]
structure EF9 (bs:List Blk) (bm:Nat) (r:Int) (L:Nat) (env:List V):Prop extends EF bs bm r env where
 e9:nth env 9=some (.ptr L 0)
theorem wLs_mem {c:E}:∀ {l:List E},c∈l→wE c+2≤wLs l
 | a::l,h=>by
  simp only [wLs]
  rcases List.mem_cons.1 h with rfl|h
  ·omega
  ·have:=wLs_mem h;omega
theorem wLs_len:∀ {l:List E},l.length≤wLs l
 | []=>Nat.le_refl _
 | a::l=>by have:=wLs_len (l:=l);simp only [wLs,List.length_cons];omega
theorem wE_args (e:E):wE e=3+wLs e.args:=by cases e;simp only [wE,E.args]
theorem den_two {r op pl s0 s1 s2 s3 mn mx:Int} {tx:List Nat} {nl:Bool} {a:E} {tl:List E} {d:Nat} {S:List (E×Nat)} {ps:List Part} {m:Mk} {y:List Part×Mk} (h:den r ((.mk op pl s0 s1 s2 s3 tx mn mx nl (a::tl),d+1)::S) ps m=some y):∃ b x ps',ps=b::x::ps':=by
 cases ps with
 | nil=>simp [den,wkF] at h
 | cons b ps =>
  cases ps with
  | nil=>simp [den,wkF] at h
  | cons x ps=>exact ⟨b,x,ps,rfl⟩
def Mid (bs:List Blk) (bm:Nat) (i0:Option Nat) (r:Int) (P:Part) (M:Mk) (Wm L:Nat) (e:E) (d:Nat) (S:List (E×Nat)) (s:St):Prop :=
 ∃ env H ps m q,s=⟨env,H,[],[]⟩∧EF9 bs bm r L env∧WS bs bm i0 H S ps m∧(∀ p∈ps,PIn m.next.length p)∧m.Ok∧H.get L=some (.cells (frC (e,d)) 92)∧H.get (bs.length+1)=some (.cells (partC q) 62) ∧
  (∀ c,e.args[d]?=some c→den r ((c,0)::(e,d+1)::S) ps m=some ([P],M)∧S.length+2+ps.length+wS ((c,0)::(e,d+1)::S)≤Wm∧wS ((c,0)::(e,d+1)::S)<wS ((e,d)::S)) ∧
  (d=e.args.length→match e with|.mk op _ _ _ _ _ _ mn mx _ _=>∃ p ps',ps=p::ps'∧den r S ((fin7 op mn mx (p,m)).1::ps') (fin7 op mn mx (p,m)).2=some ([P],M)∧S.length+ps.length+wS S≤Wm)
theorem walk_run (hg:GW gl) {n n0:Nat} {H:Hp} {bm:Nat} {m:Mk} {i:Option Nat} {e:E} {r:Int} {P:Part} {M:Mk}
  (hm:MK n0 H bm m i) (hn0:n0≤H.blks.length) (hP:wkE r e m=(P,M)) (hok:m.Ok) (hM:M.sets.length≤1200) (hn:wE e+2000≤n) (hw:wE e+2≤2 ^ 31) :
  ∃ H' i',callA Tryz.prog gl (n+1) 17 [.ptr bm 0,enc e,.int .i64 r] H=some (.ret (.agg (partC P)),H')∧MK n0 H' bm M i'∧NewB H.blks.length i i'∧Frm H H' (fun d=>d=bm∨i=some d)∧M.Ok∧PIn M.next.length P:=by
 obtain ⟨bs,es⟩:=H
 have hm0:=hm.start
 suffices hmain:(go ⟨Tryz.prog,gl,callA Tryz.prog gl n,uqw⟩ n (Fx Tryz.prog Tryz.f17.results.toList fun w H1=>w=.agg (partC P)∧∃ i',MK bs.length H1 bm M i'∧NewB bs.length i i'∧Frm ⟨bs,[]⟩ H1 (fun d=>d=bm∨i=some d)∧M.Ok∧PIn M.next.length P) [.c (Tryz.f17.body.getD .skip)] .normal ⟨[.ptr bm 0,enc e,.int .i64 r]++List.replicate 83 (.tup []),⟨bs,[]⟩,[],[]⟩) by
  obtain ⟨w,H1,h0,rfl,i',h1,h2,h3,h4,h5⟩:=go_intro' (gl:=gl) (f:=17) (bs:=bs) (es:=es) (args:=[.ptr bm 0,enc e,.int .i64 r]) (n:=n) (hg.hk _ _ (by decide)) (fun H=>hg.hk2 _ _ _ _) Tryz.func17 rfl (by rw [hg.uq];exact hmain)
  exact ⟨_,i',h0,hm.finish hn0 h2 h1,h2,frm_finish h3,h4,h5⟩
 obtain ⟨c,hc,hu,hed⟩:=hm0
 have hlt:bm<bs.length:=get_lt hc
 have hbox:okC (.agg (ecells e))=true:=rfl
 simp only [Tryz.f17,Option.getD_some,go_seq,enc_cells]
 refine go_reg' (tk:=[]) (by kernel_rfl) ?_
 simp only [go_os,go_os_nil,go_seq,op_box,op_alloc_z,take_tmp,takeV_agg,opQ_val,putA,push_mk,List.length_append,List.length_cons,List.length_nil,Nat.zero_add,List.append_assoc,List.cons_append,List.nil_append,nth_cons0,nth_cons,List.set_cons_zero,List.set_cons_succ,boxQ_some hbox,z62,alcQ_some (show okC (V.agg (partC ⟨false,noP,noP⟩))=true from rfl),V.laid,V.cells,ecells_clr,List.replicate]
 refine go_reg' (tk:=[]) (by kernel_rfl) ?_
 simp only [go_os,go_os_nil,go_seq,op_alloc_z,opQ_val,putA,push_mk,List.length_append,List.length_cons,List.length_nil,Nat.zero_add,Nat.reduceAdd,List.append_assoc,List.cons_append,List.nil_append,List.set_cons_zero,List.set_cons_succ,z86,alcQ_some (show okC (V.agg [V.snil])=true from rfl),V.cells]
 refine go_reg' (tk:=[]) (by kernel_rfl) ?_
 simp only [go_os,go_os_nil,go_seq,op_alloc_z,opQ_val,putA,push_mk,List.length_append,List.length_cons,List.length_nil,Nat.zero_add,Nat.reduceAdd,List.append_assoc,List.cons_append,List.nil_append,List.set_cons_zero,List.set_cons_succ,z89,alcQ_some (show okC (V.agg [V.snil])=true from rfl),V.cells]
 generalize hH0:Hp.mk (bs++[Blk.cells (ecells e) 45,.cells (partC ⟨false,noP,noP⟩) 62,.cells [.snil] 86,.cells [.snil] 89]) []=H0
 have hws:WS bs bm i H0 [] [] m:=by
  subst hH0
  refine ⟨by simp,hlt,⟨.snil,none,gN (k:=2),⟨rfl,rfl⟩,by simp⟩,⟨.snil,none,gN (k:=3),⟨rfl,rfl⟩,by simp⟩,⟨i,⟨c,(gB hlt).trans hc,hu.frame fun j hj=>gB (by subst hj;exact hu.lt),fun j hj hn=>?_⟩,.inl rfl⟩,fun d hd _ _=>gB hd⟩
  subst hj
  exact absurd hu.lt (by simpa using hn)
 have hld0:loadA Tryz.prog H0 gl.g 45 (.ptr bs.length 0)=some (.agg (ecells e)):=by
  subst hH0
  rw [ldaN0 ag45 sz45 rfl (by simp [ecells_len])]
  rw [List.drop_zero,List.take_of_length_le (by rw [ecells_len];decide)]
 have hres:H0.get (bs.length+1)=some (.cells (partC p0) 62):=by subst hH0;exact gN (k:=1)
 obtain ⟨H1,hc1,hw1,hk1⟩:=hws.pushO hg (show 1≤n by omega) (e,0) (by decide)
 refine go_reg' (tk:=[]) (by kernel_rfl) ?_
 simp only [go_os,op_load0,op_build,peek,rdQ_some,opQ_val,putA,clr_agg,clr_ptr,Option.bind_some,Option.map_some,nth_cons0,nth_cons,List.set_cons_zero,List.set_cons_succ,hld0]
 rw [bld92 (e:=e) (by rfl)]
 simp only [go_os,go_os_nil,go_seq,go_block,op_call,peeks,fV_eq,peek,rdQ_some,opQ_val,putA,clr_agg,clr_ptr,callG_some,callQ,List.map_cons,List.map_nil,nth_cons0,nth_cons,List.set_cons_zero,List.set_cons_succ,hc1]
 refine go_env (EF bs bm r) ⟨rfl,rfl,rfl,rfl,rfl,rfl⟩ fun env henv=>?_
 have hi1:WI bs bm i r P M (wE e+2) H1 [(e,0)] [] m:=⟨hw1,by simp only [den,wkF_zero,hP],fun p hp=>by simp at hp,hok,fun f hf=>by simp at hf;subst hf;exact ⟨Nat.zero_le _,by simp only;omega⟩,by simp [wS,wF];omega,⟨p0,hk1 _ _ _ (by omega) (by omega) (by omega) hres⟩⟩
 refine go_loop (fun j s=>∃ S ps m H env,wS S=j∧s=⟨env,H,[],[]⟩∧EF bs bm r env∧WI bs bm i r P M (wE e+2) H S ps m) (wS [(e,0)]) (by simp [wS,wF];omega) ⟨_,_,_,_,_,rfl,rfl,henv,hi1⟩ ?_
 clear hi1 hws hld0 hres hc1 hw1 hk1 hH0 henv env H0 H1
 rintro j s ⟨S,ps,m1,H,env,rfl,rfl,he,hi⟩
 simp only [go_seq]
 refine go_reg' (tk:=[]) (by kernel_rfl) ?_
 have hemp:=hi.ws.emp hg (show 1≤n by omega)
 have hlen:=he.len
 simp only [go_os,go_os_nil,go_seq,go_skip,go_block,op_unOp,op_call,Nat.reduceEqDiff,peeks,fV_eq,peek,rdQ_some,opQ_val,putA,clr_bool,clr_ptr,Option.bind_some,callG_some,callQ,List.map_cons,List.map_nil,go_cond',condQ_b,if_true,nth_set,List.length_set,Nat.reduceLT,if_true,if_false,he.e7,hlen,hemp,unA]
 cases S with
 | nil =>
  refine .inr ⟨rfl,?_⟩
  have hd:=hi.dn
  simp only [den,Option.some.injEq,Prod.mk.injEq] at hd
  obtain ⟨rfl,rfl⟩:=hd
  obtain ⟨H2,hc2,hw2,hk2⟩:=hi.ws.popD hg (show 1≤n by omega) (by decide)
  obtain ⟨q,hq⟩:=hi.res
  have hq2:=hk2 _ _ _ (by have:=hi.ws.lt;omega) (by omega) (by omega) hq
  simp only [go_exit,go_c_exit,go_nil,thn_exit,go_eb_exit,Nat.beq_refl,if_true,go_seq]
  refine go_reg' (tk:=[]) (by kernel_rfl) ?_
  simp only [go_os,go_os_nil,op_store_x,op_call,Nat.reduceEqDiff,peeks,fV_eq,peek,take_tmp,takeV_agg,opQ_val,putA,clr_ptr,callG_some,callQ,List.map_cons,List.map_nil,if_true,nth_set,List.length_set,Nat.reduceLT,if_true,if_false,he.e8,he.e6,hlen,hc2]
  rw [stPg hq2]
  simp only [opQ_skip,putA,go_ret,go_nil,Fx]
  have hw3:=hw2.setc (cs':=partC P) (ty':=62) hq2 (by omega) (by omega) (by omega)
  obtain ⟨i',k1,k2⟩:=hw3.mkr
  refine ⟨trivial,[.agg (partC P)],?_,rfl,i',k1,k2,⟨by have:=hw3.len;show bs.length≤_;omega,fun d hd hnd=>hw3.fr d hd (fun e=>hnd (.inl e)) (fun e=>hnd (.inr e))⟩,hi.ok,hi.pin P (by simp)⟩
  simp only [resultsA,nth_set,List.length_set,Nat.reduceEqDiff,if_false,he.e6]
  rw [ldPg (set_eq hq2)]
  simp [clr]
 | cons f S =>
  refine .inl ⟨rfl,?_⟩
  have hbd:=hi.bd
  have hSl:S.length<2 ^ 32:=by simp only [List.length_cons] at hbd;omega
  have hpl:ps.length<2 ^ 31:=by simp only [List.length_cons] at hbd;omega
  obtain ⟨H1,hc1,hw1,hk1⟩:=hi.ws.popO hg (show 1≤n by omega) hSl
  refine go_reg' (tk:=[]) (by kernel_rfl) ?_
  simp only [go_os,go_os_nil,go_seq,go_block,op_alloc_z,op_store_x,op_call,Nat.reduceEqDiff,peeks,fV_eq,peek,take_tmp,takeV_agg,opQ_val,putA,clr_ptr,callG_some,callQ,List.map_cons,List.map_nil,if_true,nth_set,List.length_set,Nat.reduceLT,if_true,if_false,he.e7,hlen,hc1,z92,alcQ_some (show okC (V.agg [.int .i64 0,.int .i64 0,.int .u64 0,.int .u64 0,.int .u64 0,.int .u64 0,.str [],.int .i64 0,.int .i64 0,.snil,.int .i64 0])=true from rfl),V.cells]
  rw [stFg get_new rfl rfl]
  obtain ⟨L,hL⟩:∃ L,L=H1.blks.length:=⟨_,rfl⟩
  obtain ⟨z,hz⟩:∃ z,z=Blk.cells [.int .i64 0,.int .i64 0,.int .u64 0,.int .u64 0,.int .u64 0,.int .u64 0,.str [],.int .i64 0,.int .i64 0,.snil,.int .i64 0] 92:=⟨_,rfl⟩
  rw [← hz,← hL]
  obtain ⟨H2,hH2⟩:∃ H2,H2=(H1.push z).set L (.cells (frC f) 92):=⟨_,rfl⟩
  rw [← hH2]
  have hLn:bs.length+4≤L:=by rw [hL];exact hw1.len
  have hgL:(H1.push z).get L=some z:=by rw [hL];exact get_new
  have hf2:H2.get L=some (.cells (frC f) 92):=by rw [hH2,set_eq hgL]
  have hw2:WS bs bm i H2 S ps m1:=by rw [hH2];exact hw1.push.1.setc (by rw [hgL,hz]) (by omega) (by omega) (by omega)
  obtain ⟨q,hq⟩:=hi.res
  have hq2:H2.get (bs.length+1)=some (.cells (partC q) 62):=by
   rw [hH2,set_ne (by omega),push_lt (by omega)]
   exact hk1 _ _ _ (by omega) (by omega) (by omega) hq
  clear hH2 hgL hz z hk1 hq hc1 hw1
  simp only [opQ_skip,putA]
  refine go_env (EF9 bs bm r L) ⟨⟨by simp [hlen],by simp [nth_set,he.e0],by simp [nth_set,he.e2],by simp [nth_set,he.e6],by simp [nth_set,he.e7],by simp [nth_set,he.e8]⟩,by simp [nth_set,hlen]⟩ fun env he=>?_
  have hlen:=he.len
  obtain ⟨⟨op,pl,s0,s1,s2,s3,tx,mn,mx,nl,args⟩,d⟩:=f
  obtain ⟨l1,l2,l3,l4⟩:=ldF (g:=gl.g) hf2
  refine go_reg' (tk:=[]) (by kernel_rfl) ?_
  simp only [go_os,go_os_nil,go_seq,go_skip,op_load0,op_binOp,op_assign,op_fieldAddr2,op_len,Nat.reduceEqDiff,peek,take_tmp,ofVal,takeV_bool,rdQ_some,tkQ_some,opQ_val,putA,clr_int,clr_bool,clr_ptr,Option.bind_some,Option.map_some,faddrO_some,faddrV,Nat.zero_add,Nat.add_zero,go_cond',condQ_b,if_true,nth_set,List.length_set,Nat.reduceLT,if_true,if_false,he.e9,hlen,fo92_0,fo45_6,l2,clr_argV,lenA_arg,bin_eql]
  cases args with
  | nil =>
   refine .inl ⟨rfl,?_⟩
   have hdn:=hi.dn
   rw [den_leaf] at hdn
   have hgr:=den_grow hdn
   have hlo:=leafM_ok (op:=op) (r:=r) (q:=(s0,s1,s2,s3)) hi.ok
   have hl12:=leafM_grow (op:=op) (r:=r) (q:=(s0,s1,s2,s3)) (m:=m1)
   have hlen3:m1.next.length≤(leafM op (s0,s1,s2,s3) r m1).2.next.length:=by rw [hi.ok.n,hlo.1.n];exact hl12
   simp only at hgr
   obtain ⟨H3,hc3,hw3,hk3⟩:=hw2.leaf hg (show 2≤n by omega) hi.ok (by omega) (op:=op) (pl:=pl) (s0:=s0) (s1:=s1) (s2:=s2) (s3:=s3) (mn:=mn) (mx:=mx) (r:=r) (text:=tx) (nl:=nl) (args:=[])
   obtain ⟨H4,hc4,hw4,hk4⟩:=hw3.pushD hg (show 1≤n by omega) (leafM op (s0,s1,s2,s3) r m1).1 (by omega)
   rw [enc_cells] at hc3
   simp only [go_exit,go_c_exit,go_eb_exit,go_seq,Nat.beq_refl,if_true]
   refine go_reg' (tk:=[]) (by kernel_rfl) ?_
   simp only [go_os,go_os_nil,op_move0,op_load0,op_fieldAddr2,op_call,Nat.reduceEqDiff,peeks,fV_eq,peek,rdQ_some,opQ_val,putA,clr_int,clr_agg,clr_ptr,Option.bind_some,Option.map_some,faddrO_some,faddrV,callG_some,callQ,List.map_cons,List.map_nil,List.length_nil,Nat.add_zero,if_true,nth_set,List.length_set,Nat.reduceLT,if_true,if_false,he.e0,he.e2,he.e8,he.e9,hlen,fo92_0,l4,hc3,hc4]
   simp only [go_exit,go_c_exit,go_eb_exit,go_nil,thn_normal,go_eb,Nat.beq_refl,bq24,bq25,if_true,Bool.false_eq_true,if_false]
   refine ⟨_,?_,S,_,_,H4,_,rfl,rfl,⟨by simp [hlen],by simp [nth_set,he.e0],by simp [nth_set,he.e2],by simp [nth_set,he.e6],by simp [nth_set,he.e7],by simp [nth_set,he.e8]⟩,hw4,hdn,fun p hp=>?_,hlo.1,fun f hf=>hi.wf f (List.mem_cons_of_mem _ hf),?_,⟨q,hk4 _ _ _ (by have:=hi.ws.lt;omega) (by omega) (by omega) (hk3 _ _ _ (by have:=hi.ws.lt;omega) (by omega) (by omega) hq2)⟩⟩
   ·simp only [wS];have:=wF_pos (.mk op pl s0 s1 s2 s3 tx mn mx nl [],d);omega
   ·rcases List.mem_cons.1 hp with rfl|hp
    ·exact hlo.2
    ·exact (hi.pin p hp).mono hlen3
   ·simp only [wS,List.length_cons] at hbd ⊢;have:=wF_pos (.mk op pl s0 s1 s2 s3 tx mn mx nl [],d);omega
  | cons a tl =>
   refine .inr ⟨by simp;omega,?_⟩
   refine go_env (EF9 bs bm r L) ⟨⟨by simp [hlen],by simp [nth_set,he.e0],by simp [nth_set,he.e2],by simp [nth_set,he.e6],by simp [nth_set,he.e7],by simp [nth_set,he.e8]⟩,by simp [nth_set,he.e9]⟩ fun env he=>?_
   have hlen:=he.len
   have hmlt:=hi.ws.lt
   refine go_reg' (tk:=[]) (by kernel_rfl) ?_
   simp only [go_os,go_os_nil,go_skip,op_load0,op_binOp,op_assign,op_fieldAddr2,Nat.reduceEqDiff,peek,take_tmp,ofVal,takeV_bool,rdQ_some,tkQ_some,opQ_val,putA,clr_int,clr_bool,clr_ptr,Option.bind_some,Option.map_some,faddrO_some,faddrV,Nat.zero_add,go_cond',condQ_b,if_true,nth_set,List.length_set,Nat.reduceLT,if_true,if_false,he.e9,hlen,fo92_1,l3,bin_eql]
   have hdl:=hi.wf _ (List.mem_cons_self ..)
   have hdn:=hi.dn
   rcases d with _|d
   refine .inl ⟨rfl,?_⟩
   rw [den_zero] at hdn
   obtain ⟨H3,hc3,hw3,hk3⟩:=hw2.pushD hg (show 1≤n by omega) p0 (by omega)
   have hf3:=hk3 _ _ _ (by omega) (by omega) (by omega) hf2
   have hq3:=hk3 _ _ _ (by omega) (by omega) (by omega) hq2
   obtain ⟨l1,l2,l3,l4⟩:=ldF (g:=gl.g) hf3
   simp only [go_exit,go_c_exit,go_eb_exit,Nat.beq_refl,bq43,if_true,Bool.false_eq_true,if_false]
   refine go_reg' (tk:=[]) (by kernel_rfl) ?_
   simp only [go_os,go_os_nil,go_seq,go_eb,op_build,op_call,Nat.reduceEqDiff,peeks,fV_eq,peek,rdQ_some,opQ_val,putA,clr_agg,clr_ptr,callG_some,callQ,List.map_cons,List.map_nil,if_true,nth_set,List.length_set,Nat.reduceLT,if_true,if_false,he.e8,hlen,bld62,hc3]
   refine go_reg' (tk:=[]) (by kernel_rfl) ?_
   simp only [go_os,go_os_nil,go_seq,go_skip,op_load0,op_binOp,op_fieldAddr2,Nat.reduceEqDiff,peek,ofVal,rdQ_some,opQ_val,putA,clr_int,clr_bool,clr_ptr,Option.bind_some,Option.map_some,faddrO_some,faddrV,Nat.zero_add,go_cond',condQ_b,if_true,nth_set,List.length_set,Nat.reduceLT,if_true,if_false,he.e9,hlen,fo92_1,l3,bin_gtr]
   refine .inr ⟨rfl,?_⟩
   refine go_gen (fun s=>∃ D,D≤(a::tl).length∧(∀ k,k<wS ((.mk op pl s0 s1 s2 s3 tx mn mx nl (a::tl),D)::S)→k<wS ((.mk op pl s0 s1 s2 s3 tx mn mx nl (a::tl),0)::S))∧Mid bs bm i r P M (wE e+2) L (.mk op pl s0 s1 s2 s3 tx mn mx nl (a::tl)) D S s) ⟨0,Nat.zero_le _,fun _ h=>h,_,_,_,_,_,rfl,⟨⟨by simp [hlen],by simp [nth_set,he.e0],by simp [nth_set,he.e2],by simp [nth_set,he.e6],by simp [nth_set,he.e7],by simp [nth_set,he.e8]⟩,by simp [nth_set,he.e9]⟩,hw3,fun p hp=>?_,hi.ok,hf3,hq3,fun c hc=>?_,fun h=>by simp [E.args] at h⟩ ?_
   ·rcases List.mem_cons.1 hp with rfl|hp
    ·exact pin_no
    ·exact hi.pin p hp
   ·simp only [E.args,List.getElem?_cons_zero,Option.some.injEq] at hc
    subst hc
    refine ⟨hdn,?_,?_⟩ <;>
    ·have:=wS_zero (op:=op) (pl:=pl) (s0:=s0) (s1:=s1) (s2:=s2) (s3:=s3) (tx:=tx) (mn:=mn) (mx:=mx) (nl:=nl) (a:=a) (tl:=tl) (S:=S)
     simp only [List.length_cons,Nat.zero_add] at hbd ⊢
     omega
   rotate_left
   refine .inr ⟨by simp;omega,?_⟩
   obtain ⟨b,x,ps,rfl⟩:=den_two hdn
   have hpx:=hi.pin x (by simp)
   have hpb:=hi.pin b (by simp)
   have hla:(a::tl).length≤2 ^ 31:=by
    have h1:=hdl.2
    rw [wE_args] at h1
    have h2:=wLs_len (l:=a::tl)
    simp only [E.args] at h1
    omega
   have hdd:d<2 ^ 40:=by have h1:=hdl.1;simp only [E.args] at h1;omega
   simp only [List.length_cons] at hpl
   obtain ⟨H3,hc3,hw3,hk3⟩:=hw2.popD hg (show 1≤n by omega) (by simp only [List.length_cons];omega)
   obtain ⟨H4,hc4,hw4,hk4⟩:=hw3.popD hg (show 1≤n by omega) (by omega)
   have hf4:=hk4 _ _ _ (by omega) (by omega) (by omega) (hk3 _ _ _ (by omega) (by omega) (by omega) hf2)
   have hq4:=hk4 _ _ _ (by omega) (by omega) (by omega) (hk3 _ _ _ (by omega) (by omega) (by omega) hq2)
   simp only [go_exit,go_c_exit,go_eb_exit,go_seq,Nat.beq_refl,bq53,bq54,if_true,Bool.false_eq_true,if_false]
   refine go_reg' (tk:=[]) (by kernel_rfl) ?_
   simp only [go_os,go_os_nil,go_seq,go_skip,op_load0,op_binOp,op_fieldAddr2,Nat.reduceEqDiff,peek,ofVal,rdQ_some,opQ_val,putA,clr_int,clr_bool,clr_ptr,Option.bind_some,Option.map_some,faddrO_some,faddrV,Nat.zero_add,go_cond',condQ_b,if_true,nth_set,List.length_set,Nat.reduceLT,if_true,if_false,he.e9,hlen,fo92_1,l3,bin_gtr]
   refine .inl ⟨by simp,?_⟩
   refine go_reg' (tk:=[]) (by kernel_rfl) ?_
   simp only [go_os,op_alloc_z,op_store_x,op_call,Nat.reduceEqDiff,peeks,fV_eq,peek,take_tmp,takeV_agg,opQ_val,putA,clr_ptr,callG_some,callQ,List.map_cons,List.map_nil,if_true,nth_set,List.length_set,Nat.reduceLT,if_true,if_false,he.e8,hlen,hc3,hc4,z62,alcQ_some (show okC (V.agg (partC ⟨false,noP,noP⟩))=true from rfl),V.cells,len_push]
   obtain ⟨Z,hZ⟩:∃ Z,Z=Blk.cells (partC ⟨false,noP,noP⟩) 62:=⟨_,rfl⟩
   rw [← hZ]
   obtain ⟨L2,hL2⟩:∃ L2,L2=H4.blks.length:=⟨_,rfl⟩
   have hg2:((H4.push Z).push Z).get L2=some Z:=by rw [push_lt (by rw [len_push,hL2];omega),hL2];exact get_new
   have hg3:((H4.push Z).push Z).get (L2+1)=some Z:=by rw [hL2,← len_push (x:=Z)];exact get_new
   rw [← hL2,stPg (hg2.trans (by rw [hZ]))]
   simp only [opQ_skip,putA,go_os]
   rw [op_store_x]
   simp only [go_os_nil,Nat.reduceEqDiff,peek,take_tmp,takeV_agg,clr_ptr,if_true,nth_set,List.length_set,Nat.reduceLT,if_true,if_false,hlen]
   rw [stPg (((set_ne (show L2+1≠L2 by omega)).trans hg3).trans (by rw [hZ]))]
   simp only [opQ_skip,putA]
   obtain ⟨H5,hH5⟩:∃ H5,H5=(((H4.push Z).push Z).set L2 (.cells (partC b) 62)).set (L2+1) (.cells (partC x) 62):=⟨_,rfl⟩
   rw [← hH5]
   have hL24:bs.length+4≤L2:=by rw [hL2];exact hw4.len
   have hb5:H5.get L2=some (.cells (partC b) 62):=by rw [hH5,set_ne (by omega),set_eq hg2]
   have hx5:H5.get (L2+1)=some (.cells (partC x) 62):=by rw [hH5,set_eq ((set_ne (by omega)).trans hg3)]
   have hk5:∀ d y,H4.get d=some y→H5.get d=some y:=fun d y hy=>by
    have hl:=get_lt hy
    rw [hH5,set_ne (by omega),set_ne (by omega),push_lt (by rw [len_push];omega),push_lt hl,hy]
   have hw5:WS bs bm i H5 S ps m1:=by
    rw [hH5]
    exact ((hw4.push.1.push.1).setc (hg2.trans (by rw [hZ])) (by omega) (by omega) (by omega)).setc (((set_ne (show L2+1≠L2 by omega)).trans hg3).trans (by rw [hZ])) (by omega) (by omega) (by omega)
   have hf5:=hk5 _ _ hf4
   have hq5:=hk5 _ _ hq4
   refine go_env (fun env=>EF9 bs bm r L env∧nth env 10=some (.ptr L2 0)∧nth env 11=some (.ptr (L2+1) 0)) ⟨⟨⟨by simp [hlen],by simp [nth_set,he.e0],by simp [nth_set,he.e2],by simp [nth_set,he.e6],by simp [nth_set,he.e7],by simp [nth_set,he.e8]⟩,by simp [nth_set,he.e9]⟩,by simp [nth_set,hlen],by simp [nth_set,hlen]⟩ fun env he'=>?_
   obtain ⟨he,he10,he11⟩:=he'
   have hlen:=he.len
   obtain ⟨l1,l2,l3,l4⟩:=ldF (g:=gl.g) hf5
   obtain ⟨H6,hc6,hw6,hk6⟩:=hw5.joined hg (show 1302≤n by omega) (op:=op) (k:=d) (a:=x) (b:=b) (by omega) hpx.2
   obtain ⟨H7,hc7,hw7,hk7⟩:=hw6.pushD hg (show 1≤n by omega) (joinedM op d x b m1.next).1 (by omega)
   have hsub:∀ u w,binV Tryz.prog .sub 3 u w (some (.int .i64 ((d+1:Nat):Int))) (some (.int .i64 1))=some (.int .i64 (d:Int)):=fun u w=>bin_subI (a:=d+1) (b:=1) (by omega) (by omega)
   refine go_reg' (tk:=[]) (by kernel_rfl) ?_
   simp only [go_os,go_os_nil,go_seq,op_move0,op_load0,op_binOp,op_fieldAddr2,op_call,Nat.reduceEqDiff,peeks,fV_eq,peek,ofVal,rdQ_some,opQ_val,putA,clr_int,clr_agg,clr_ptr,Option.bind_some,Option.map_some,faddrO_some,faddrV,callG_some,callQ,List.map_cons,List.map_nil,Nat.zero_add,Nat.add_zero,if_true,nth_set,List.length_set,Nat.reduceLT,if_true,if_false,he.e0,he.e9,he.e8,he10,he11,hlen,fo92_0,fo45_0,fo92_1,l1,l3,hsub,ldPg hx5,ldPg hb5,hc6,hc7]
   have hf7:=hk7 _ _ _ (by omega) (by omega) (by omega) (hk6 _ _ _ (by omega) (by omega) (by omega) hf5)
   have hq7:=hk7 _ _ _ (by omega) (by omega) (by omega) (hk6 _ _ _ (by omega) (by omega) (by omega) hq5)
   have hjl:(joinedM op d x b m1.next).2.length=m1.next.length:=joinedM_len
   refine go_gen (fun s=>∃ D,D≤(a::tl).length∧(∀ k,k<wS ((.mk op pl s0 s1 s2 s3 tx mn mx nl (a::tl),D)::S)→k<wS ((.mk op pl s0 s1 s2 s3 tx mn mx nl (a::tl),d+1)::S))∧Mid bs bm i r P M (wE e+2) L (.mk op pl s0 s1 s2 s3 tx mn mx nl (a::tl)) D S s) ⟨d+1,hdl.1,fun _ h=>h,_,_,_,_,_,rfl,⟨⟨by simp [hlen],by simp [nth_set,he.e0],by simp [nth_set,he.e2],by simp [nth_set,he.e6],by simp [nth_set,he.e7],by simp [nth_set,he.e8]⟩,by simp [nth_set,he.e9]⟩,hw7,fun p hp=>?_,⟨hi.ok.r,by rw [hjl];exact hi.ok.n⟩,hf7,hq7,fun c hc=>?_,fun h=>?_⟩ ?_
   ·rw [hjl]
    rcases List.mem_cons.1 hp with rfl|hp
    ·exact joinedM_in hpx hpb
    ·exact hi.pin p (by simp [hp])
   ·simp only [E.args] at hc
    have hden:=den_more (r:=r) (op:=op) (pl:=pl) (s0:=s0) (s1:=s1) (s2:=s2) (s3:=s3) (tx:=tx) (mn:=mn) (mx:=mx) (nl:=nl) (S:=S) (ps:=ps) (m:=m1) (x:=x) (b:=b) hc
    have hws:=wS_more (op:=op) (pl:=pl) (s0:=s0) (s1:=s1) (s2:=s2) (s3:=s3) (tx:=tx) (mn:=mn) (mx:=mx) (nl:=nl) (S:=S) hc
    rw [show d+2=d+1+1 from rfl] at hws
    refine ⟨hden ▸ hdn,?_,?_⟩ <;>
    ·simp only [List.length_cons] at hbd ⊢
     omega
   ·have hden:=den_end (r:=r) (op:=op) (pl:=pl) (s0:=s0) (s1:=s1) (s2:=s2) (s3:=s3) (tx:=tx) (mn:=mn) (mx:=mx) (nl:=nl) (S:=S) (ps:=ps) (m:=m1) (x:=x) (b:=b) (a:=a) (tl:=tl) (d:=d) (by simp only [E.args] at h;omega)
    refine ⟨_,_,rfl,hden ▸ hdn,?_⟩
    simp only [List.length_cons,wS] at hbd ⊢
    omega
   all_goals
    rintro s ⟨D,hDl,hJ,env,H5,ps2,m2,q2,rfl,he,hw5,hpin,hok2,hf5,hq5,hmo,hen⟩
    have hlen:=he.len
    obtain ⟨l1,l2,l3,l4⟩:=ldF (g:=gl.g) hf5
    have hDb:D<2 ^ 40:=by
     have h1:=hdl.2
     rw [wE_args] at h1
     have h2:=wLs_len (l:=a::tl)
     simp only [E.args] at h1
     omega
    refine go_reg' (tk:=[]) (by kernel_rfl) ?_
    simp only [go_os,go_os_nil,go_seq,go_skip,op_load0,op_binOp,op_fieldAddr2,op_len,Nat.reduceEqDiff,peek,rdQ_some,opQ_val,putA,clr_int,clr_bool,clr_ptr,Option.bind_some,Option.map_some,faddrO_some,faddrV,List.length_cons,Nat.zero_add,Nat.add_zero,go_cond',condQ_b,if_true,nth_set,List.length_set,Nat.reduceLT,if_true,if_false,he.e9,hlen,fo92_0,fo92_1,fo45_6,l2,l3,clr_argV,lenA_arg,bin_eql]
    rcases Nat.lt_or_ge D (a::tl).length with hD|hD
    ·refine .inr ⟨by simp;simp only [List.length_cons] at hD;omega,?_⟩
     obtain ⟨c,hcD⟩:∃ c,(a::tl)[D]?=some c:=⟨_,List.getElem?_eq_getElem hD⟩
     obtain ⟨hm1,hm2,hm3⟩:=hmo c hcD
     have hcm:c∈a::tl:=List.mem_of_getElem? hcD
     have hwc:=wLs_mem hcm
     have hadd:∀ u w,binV Tryz.prog .add 3 u w (some (.int .i64 (D:Int))) (some (.int .i64 1))=some (.int .i64 ((D+1:Nat):Int)):=fun u w=>bin_addk (by omega)
     obtain ⟨H6,hc6,hw6,hk6⟩:=hw5.pushO hg (show 1≤n by omega) (.mk op pl s0 s1 s2 s3 tx mn mx nl (a::tl),D+1) hSl
     have hf6:=hk6 _ _ _ (by omega) (by omega) (by omega) hf5
     have hq6:=hk6 _ _ _ (by omega) (by omega) (by omega) hq5
     obtain ⟨H7,hc7,hw7,hk7⟩:=hw6.pushO hg (show 1≤n by omega) (c,0) (by simp only [List.length_cons];omega)
     have hq7:=hk7 _ _ _ (by omega) (by omega) (by omega) hq6
     refine go_reg' (tk:=[]) (by kernel_rfl) ?_
     simp only [go_os,op_load0,op_binOp,op_build,op_fieldAddr2,Nat.reduceEqDiff,peek,ofVal,rdQ_some,opQ_val,putA,clr_int,clr_agg,clr_ptr,Option.bind_some,Option.map_some,faddrO_some,faddrV,Nat.zero_add,Nat.add_zero,if_true,nth_set,List.length_set,Nat.reduceLT,if_true,if_false,he.e9,hlen,fo92_0,fo92_1,l4,l3,hadd]
     rw [bld92' (e:=.mk op pl s0 s1 s2 s3 tx mn mx nl (a::tl)) (d:=D+1) (by simp [peek,nth_set,hlen,clr]) (by simp [peek,nth_set,hlen,clr])]
     simp only [go_os,go_os_nil,op_call,Nat.reduceEqDiff,peeks,fV_eq,peek,rdQ_some,opQ_val,putA,clr_agg,clr_ptr,callG_some,callQ,List.map_cons,List.map_nil,if_true,nth_set,List.length_set,Nat.reduceLT,if_true,if_false,he.e7,hlen,hc6]
     obtain ⟨m1',m2',m3',m4'⟩:=ldF (g:=gl.g) hf6
     refine go_reg' (tk:=[]) (by kernel_rfl) ?_
     simp only [go_os,op_load0,op_build,op_fieldAddr2,op_indexAddr,Nat.reduceEqDiff,peek,rdQ_some,opQ_val,putA,clr_int,clr_agg,clr_ptr,clr_vp,Option.bind_some,Option.map_some,faddrO_some,faddrV,idxV,Nat.zero_add,Nat.add_zero,if_true,nth_set,List.length_set,Nat.reduceLT,if_true,if_false,he.e9,hlen,fo92_0,fo92_1,fo45_6,m2',m3',clr_argV,idx_arg hcD,ld_arg]
     rw [bld92 (e:=c) (by simp [peek,nth_set,hlen,clr])]
     simp only [go_os,go_os_nil,op_call,Nat.reduceEqDiff,peeks,fV_eq,peek,rdQ_some,opQ_val,putA,clr_agg,clr_ptr,callG_some,callQ,List.map_cons,List.map_nil,if_true,nth_set,List.length_set,Nat.reduceLT,if_true,if_false,he.e7,hlen,hc7]
     simp only [go_exit,go_eb_exit,go_nil,thn_normal,go_eb,Nat.beq_refl,if_true]
     refine ⟨_,hJ _ hm3,_,_,_,H7,_,rfl,rfl,⟨by simp [hlen],by simp [nth_set,he.e0],by simp [nth_set,he.e2],by simp [nth_set,he.e6],by simp [nth_set,he.e7],by simp [nth_set,he.e8]⟩,hw7,hm1,hpin,hok2,fun f hf=>?_,hm2,⟨_,hq7⟩⟩
     rcases List.mem_cons.1 hf with rfl|hf
     ·refine ⟨Nat.zero_le _,?_⟩
      have h1:=hdl.2
      rw [wE_args] at h1
      simp only [E.args] at h1 ⊢
      omega
     ·rcases List.mem_cons.1 hf with rfl|hf
      ·exact ⟨hD,hdl.2⟩
      ·exact hi.wf f (List.mem_cons_of_mem _ hf)
    ·obtain rfl:D=(a::tl).length:=by omega
     refine .inl ⟨by simp,?_⟩
     obtain ⟨p,ps3,rfl,hdn3,hbd3⟩:=hen rfl
     refine go_reg' (tk:=[]) (by kernel_rfl) ?_
     simp only [go_os,go_os_nil,go_skip,op_load0,op_binOp,op_fieldAddr2,Nat.reduceEqDiff,peek,ofVal,rdQ_some,opQ_val,putA,clr_int,clr_bool,clr_ptr,Option.bind_some,Option.map_some,faddrO_some,faddrV,List.length_cons,Nat.add_zero,go_cond',condQ_b,if_true,nth_set,List.length_set,Nat.reduceLT,if_true,if_false,he.e9,hlen,fo92_0,fo45_0,l1,bin_eql]
     by_cases h7:op=7
     ·refine .inl ⟨by simp [h7],?_⟩
      rw [fin7,if_pos h7] at hdn3
      have hpp:=hpin p (List.mem_cons_self ..)
      have hp3:ps3.length<2 ^ 32:=by simp only [List.length_cons] at hbd3;omega
      obtain ⟨H6,hc6,hw6,hk6⟩:=hw5.popD hg (show 1≤n by omega) hp3
      obtain ⟨H7,hc7,hw7,hk7⟩:=hw6.repeated hg (show 1302≤n by omega) (op:=op) (pl:=pl) (s0:=s0) (s1:=s1) (s2:=s2) (s3:=s3) (mn:=mn) (mx:=mx) (text:=tx) (nl:=nl) (args:=a::tl) hpp.2
      rw [enc_cells] at hc7
      obtain ⟨H8,hc8,hw8,hk8⟩:=hw7.pushD hg (show 1≤n by omega) (repM mn mx p m2.next).1 hp3
      have hf6:=hk6 _ _ _ (by omega) (by omega) (by omega) hf5
      have hf7:=hk7 _ _ _ (by omega) (by omega) (by omega) hf6
      have hf8:=hk8 _ _ _ (by omega) (by omega) (by omega) hf7
      have hq8:=hk8 _ _ _ (by omega) (by omega) (by omega) (hk7 _ _ _ (by omega) (by omega) (by omega) (hk6 _ _ _ (by omega) (by omega) (by omega) hq5))
      refine go_drawJ [2] [(false,false),(false,false),(true,false),(false,true),(false,true),(false,true)] (tk:=[]) (by kernel_rfl) (by kernel_rfl) ?_
      simp only [op_move0,op_load0,op_fieldAddr2,op_call,Nat.reduceEqDiff,peeks,fV_eq,peek,rdQ_some,putA,clr_agg,clr_ptr,Option.bind_some,Option.map_some,faddrO_some,faddrV,callG_some,callQ,List.map_cons,List.map_nil,true_and,Nat.add_zero,ldChk,if_true,nth_set,List.length_set,Nat.reduceLT,if_true,if_false,oj_cons,oj_nil,ojV_val,ojV_valh,pendA_f,pendA_t,he.e0,he.e9,he.e8,hlen,fo92_0,l4,hc6,hc7,hc8,ag45,List.all_nil]
      refine ⟨pend_load (p:=.ptr L 0) (by simp [peek,nth_set,hlen,clr]) (ldF hf6).2.2.2 rfl,pend_load (p:=.ptr L 0) (by simp [peek,nth_set,hlen,clr]) (ldF hf7).2.2.2 rfl,pend_load (p:=.ptr L 0) (by simp [peek,nth_set,hlen,clr]) (ldF hf8).2.2.2 rfl,?_⟩
      simp only [go_exit,go_c_exit,go_eb_exit,go_nil,thn_normal,Nat.beq_refl,bq12,if_true,Bool.false_eq_true,if_false]
      have hrl:(repM mn mx p m2.next).2.length=m2.next.length:=repM_len
      refine ⟨_,hJ _ (show wS S<_ by simp only [wS];have:=wF_pos (.mk op pl s0 s1 s2 s3 tx mn mx nl (a::tl),(a::tl).length);omega),S,_,_,H8,_,rfl,rfl,⟨by simp [hlen],by simp [nth_set,he.e0],by simp [nth_set,he.e2],by simp [nth_set,he.e6],by simp [nth_set,he.e7],by simp [nth_set,he.e8]⟩,hw8,hdn3,fun y hy=>?_,⟨hok2.r,by rw [hrl];exact hok2.n⟩,fun f hf=>hi.wf f (List.mem_cons_of_mem _ hf),hbd3,⟨_,hq8⟩⟩
      rw [hrl]
      rcases List.mem_cons.1 hy with rfl|hy
      ·exact repM_in hpp
      ·exact hpin y (List.mem_cons_of_mem _ hy)
     ·refine .inr ⟨by simp [h7],?_⟩
      simp only [go_exit,go_c_exit,go_eb_exit,go_nil,thn_normal,Nat.beq_refl,bq12,if_true,Bool.false_eq_true,if_false]
      rw [fin7,if_neg h7] at hdn3
      refine ⟨_,hJ _ (show wS S<_ by simp only [wS];have:=wF_pos (.mk op pl s0 s1 s2 s3 tx mn mx nl (a::tl),(a::tl).length);omega),S,_,_,H5,_,rfl,rfl,⟨by simp [hlen],by simp [nth_set,he.e0],by simp [nth_set,he.e2],by simp [nth_set,he.e6],by simp [nth_set,he.e7],by simp [nth_set,he.e8]⟩,hw5,hdn3,hpin,hok2,fun f hf=>hi.wf f (List.mem_cons_of_mem _ hf),hbd3,⟨_,hq5⟩⟩
end Go.Proofs.YtkbdcmehffmfpaaGreatDoor
namespace Go.Proofs.YtkbdcmehffmfpaaGreatDoor
set_option maxRecDepth 100000
open Go Go.Vm
variable {gl:Gl}
abbrev Cr:=E×Bool×E
def crC (c:Cr):List V:=ecells c.1++[.bool c.2.1]++ecells c.2.2
def crV (c:Cr):V:=.agg (crC c)
def coresV (nl:Bool) (l:List Cr):V:=if nl && l.isEmpty then .snil else .sl 21 (l.map crV) .no
def crE (c:Cr):E:=if c.2.1 then .mk 5 0 0 0 0 0 [] 0 0 false [c.1,c.2.2] else c.1
def ruleM (n r:Nat) (e:E) (m:Mk):List Nat×Mk :=
 (preN (if (wkE r e m).1.null then joinP (wkE r e m).1.first (addP noP (n+r)) else (wkE r e m).1.first) 19,
  {(wkE r e m).2 with next:=fol (addP noP (n+r)) (preN (wkE r e m).1.last 19) (wkE r e m).2.next })
theorem ruleM_sets {n r:Nat} {e:E} {m:Mk}:(ruleM n r e m).2.sets=(wkE r e m).2.sets:=by simp only [ruleM]
def rulesM (n:Nat):Nat→List E→Mk→List (List Nat)×Mk
 | _,[],m=>([],m)
 | r,e::es,m=>((ruleM n r e m).1::(rulesM n (r+1) es (ruleM n r e m).2).1,(rulesM n (r+1) es (ruleM n r e m).2).2)
def m0:Mk:=⟨[],[],[]⟩
theorem rulesM_grow {n:Nat}:∀ {r:Nat} {es:List E} {m:Mk},m.sets.length≤(rulesM n r es m).2.sets.length
 | _,[],_=>Nat.le_refl _
 | r,e::es,m=>by
  simp only [rulesM]
  refine Nat.le_trans ?_ (rulesM_grow (m:=(ruleM n r e m).2))
  rw [ruleM_sets]
  exact wkE_grow e m
def natV (k:Nat):V:=.int .i64 (k:Int)
def rowV (l:List Nat):V:=clr (ownL 1 3 (l.map natV))
theorem crC_len (c:Cr):(crC c).length=21:=by simp [crC,ecells_len]
theorem crC_clr (c:Cr):(crC c).map clr=crC c:=by simp [crC,ecells_clr,clr_bool]
theorem crC_tops (c:Cr):tops (crC c)=0:=tops_app (tops_app (ecells_tops _) rfl) (ecells_tops _)
theorem crC_unl (c:Cr):(crC c).all (fun c=>!(locked c))=true:=by simp only [crC,List.all_append,ecells_unl];rfl
theorem clr_cores {nl:Bool} {l:List Cr}:clr (coresV nl l)=coresV nl l:=by unfold coresV;split<;>rfl
theorem sz47:szOf Tryz.prog 47=some 21:=by kernel_rfl
theorem ag47:aggT Tryz.prog 47=some true:=by kernel_rfl
theorem len_cores {H:Hp} {nl:Bool} {l:List Cr}:lenA Tryz.prog H 22 (coresV nl l)=some (l.length:Int):=by
 unfold coresV
 split
 ·rename_i h
  have:l=[]:=by simp at h;exact h.2
  subst this
  simp [lenA]
 ·simp [lenA]
theorem idx_cores {nl:Bool} {l:List Cr} {k:Nat} {c:Cr} (h:l[k]?=some c):indexAddrA Tryz.prog 22 (coresV nl l) (k:Int)=some (.vp (crC c)):=by
 have hne:coresV nl l=.sl 21 (l.map crV) .no:=by
  unfold coresV
  rw [if_neg]
  intro h'
  have:l=[]:=by simp at h';exact h'.2
  rw [this] at h;simp at h
 have hn:nth (l.map crV) k=some (crV c):=by rw [nth_eq,List.getElem?_map,h];rfl
 have hk:¬ ((k:Int)<0):=by omega
 simp [hne,indexAddrA,sz47,hk,hn,crV,V.cells]
theorem ld_core {H:Hp} {g:Nat→Nat→Option V} {c:Cr}:loadA Tryz.prog H g 47 (.vp (crC c))=some (.agg (crC c)):=by
 have:(crC c).take 21=crC c:=List.take_of_length_le (by rw [crC_len];decide)
 simp [loadA,partA_eq,ag47,sz47,partO_t,crC_len,this]
theorem callA_hk {P:Program} {n:Nat} {f:FuncId} {args:List V} {v:V} {H:Hp} (h:gl.hk f args=some v):callA P gl (n+1) f args H=some (.ret v,H):=by
 obtain ⟨b,e⟩:=H
 simp only [callA,h]
def zF:List V:=[.snil,.snil,.snil,.snil]
theorem z32:zeroA Tryz.prog 32=some (.agg zF):=by kernel_rfl
theorem bld32 {env:List V}:buildA Tryz.prog 32 #[] env=some (.agg zF):=by kernel_rfl
theorem bld58 {env:List V}:buildA Tryz.prog 58 #[] env=some (.agg [.snil,.snil,.snil]):=by kernel_rfl
theorem z47:zeroA Tryz.prog 47=some (.agg (crC (.mk 0 0 0 0 0 0 [] 0 0 true [],false,.mk 0 0 0 0 0 0 [] 0 0 true []))):=by kernel_rfl
theorem z45:zeroA Tryz.prog 45=some (.agg (ecells (.mk 0 0 0 0 0 0 [] 0 0 true []))):=by kernel_rfl
theorem z60:zeroA Tryz.prog 60=some (.agg (pv 19 noP)):=by kernel_rfl
theorem sz32:szOf Tryz.prog 32=some 4:=by kernel_rfl
theorem ag32:aggT Tryz.prog 32=some true:=by kernel_rfl
theorem ag34:aggT Tryz.prog 34=some false:=by kernel_rfl
theorem build_err (hg:GW gl) {n:Nat} (hn:1≤n) {nl:Bool} {l:List Cr} {k:Int} {ok:Bool} {e0 e1:V} (hm:gl.hk 16 [coresV nl l]=some (.tup [.int .i64 k,.bool ok])) (h0:gl.g 0 0=some e0) (h1:gl.g 1 0=some e1) (ht0:e0.top=0) (ht1:e1.top=0)
  (hc0:∃ t v,e0=.ifc t v) (hc1:∃ t v,e1=.ifc t v) (hbad:ok=false∨1000<k):callA Tryz.prog gl (n+1) 7 [coresV nl l] ⟨[],[]⟩=some (.ret (.tup [.agg zF,if ok then e1 else e0]),⟨[],[]⟩):=by
 have hcall:Cx.callF ⟨Tryz.prog,gl.g,callA Tryz.prog gl n,uqw⟩ 16 [coresV nl l] ⟨[.cells zF 32],[]⟩=some (.val (.tup [.int .i64 k,.bool ok]),⟨[.cells zF 32],[]⟩):=by
  have:=callA_hk (P:=Tryz.prog) (n:=n - 1) (H:=⟨[.cells zF 32],[]⟩) hm
  rw [show n - 1+1=n by omega] at this
  exact callF_run Tryz.func16 rfl this
 suffices hmain:(go ⟨Tryz.prog,gl,callA Tryz.prog gl n,uqw⟩ n (Fx Tryz.prog Tryz.f7.results.toList fun w H1=>w=.tup [.agg zF,if ok then e1 else e0]∧H1=⟨[.cells zF 32],[]⟩) [.c (Tryz.f7.body.getD .skip)] .normal ⟨[coresV nl l]++List.replicate 109 (.tup []),⟨[],[]⟩,[],[]⟩) by
  obtain ⟨w,H1,h0,rfl,rfl⟩:=go_intro' (gl:=gl) (f:=7) (bs:=[]) (es:=[]) (args:=[coresV nl l]) (n:=n) (hg.hk _ _ (by decide)) (fun H=>hg.hk2 _ _ _ _) Tryz.func7 rfl (by rw [hg.uq];exact hmain)
  rw [h0]
  have:(V.tup [.agg zF,if ok then e1 else e0]).top=0:=by
   cases ok<;>simp [V.top,tops,zF,ht0,ht1]
  rw [this]
  rfl
 have hz:okC (V.agg zF)=true:=rfl
 simp only [Tryz.f7,Option.getD_some,go_seq]
 refine go_reg' (tk:=[]) (by kernel_rfl) ?_
 simp only [go_os,go_os_nil,go_seq,op_alloc_z,op_assign,take_const,ofVal,tkQ_some,opQ_val,putA,Option.map_some,push_mk,List.length_nil,List.cons_append,List.nil_append,List.set_cons_zero,List.set_cons_succ,z32,alcQ_some hz,V.cells,List.replicate,List.length_nil]
 refine go_reg' (tk:=[]) (by kernel_rfl) ?_
 simp only [go_os,go_os_nil,go_seq,op_move0,op_assign,op_call,peeks,fV_eq,peek,take_tmp,takeV_int,takeV_bool,rdQ_some,tkQ_some,opQ_val,putA,clr_int,clr_bool,Option.bind_some,Option.map_some,callG_some,callQ,List.map_cons,List.map_nil,nth_cons0,nth_cons,List.set_cons_zero,List.set_cons_succ,clr_cores,hcall,op_extract,clr_tup]
 refine go_reg' (tk:=[]) (by kernel_rfl) ?_
 simp only [go_os,go_os_nil,go_seq,go_skip,op_move0,op_unOp,peek,rdQ_some,opQ_val,putA,clr_bool,Option.bind_some,go_cond',condQ_b,nth_cons0,nth_cons,List.set_cons_zero,List.set_cons_succ,unA]
 have hst:∀ env,storX Tryz.prog 32 ⟨[.cells zF 32],[]⟩ [] [] (some (.agg zF,env)) (some (.ptr 0 0))=some (.skip,⟨env,⟨[.cells zF 32],[]⟩,[],[]⟩):=fun env=>by
  rw [storX_ptr (cs:=zF) (ty:=32) sz32 rfl rfl rfl (by decide) rfl]
  rfl
 have hlr:∀ g,loadA Tryz.prog ⟨[.cells zF 32],[]⟩ g 32 (.ptr 0 0)=some (.agg zF):=fun g=>by
  rw [load_agg (cs:=zF) (ty:=32) ag32 sz32 rfl (by decide)]
  rfl
 cases ok with
 | false =>
  refine .inl ⟨rfl,?_⟩
  refine go_drawJ [1] [(false,false),(true,false),(false,true),(false,false)] (tk:=[]) (by kernel_rfl) (by kernel_rfl) ?_
  have hl:∀ H,loadA Tryz.prog H gl.g 34 (.gptr 0 0)=some e0:=fun H=>by simp [loadA,ag34,h0]
  obtain ⟨t,v,rfl⟩:=hc0
  simp only [op_load0,op_store_x,op_build,op_assign,peek,take_tmp,takeV_agg,rdQ_some,tkQ_some,putA,clr_ptr,Option.bind_some,Option.map_some,true_and,ldChk,nth_cons0,nth_cons,List.set_cons_zero,List.set_cons_succ,oj_cons,oj_nil,ojV_val,ojV_skip,pendA_f,pendA_t,ag34,bld32,hl,clr_ifc,takeV_ifc,hst]
  refine ⟨fun _=>pend_load (p:=.gptr 0 0) rfl (hl _) rfl,?_⟩
  simp only [go_ret,go_nil,go_c_ret,Fx]
  refine ⟨trivial,[.agg zF,.ifc t v],?_,by simp [tupOf,clr],trivial⟩
  simp only [resultsA,nth_cons0,nth_cons,hlr]
  rfl
 | true =>
  have hk:1000<k:=by rcases hbad with h|h;cases h;exact h
  refine .inr ⟨rfl,?_⟩
  refine go_reg' (tk:=[]) (by kernel_rfl) ?_
  simp only [go_os,go_os_nil,go_seq,go_skip,op_move0,op_binOp,peek,ofVal,rdQ_some,opQ_val,putA,clr_int,clr_bool,go_cond',condQ_b,if_true,nth_cons0,nth_cons,List.set_cons_zero,List.set_cons_succ,bin_gtr]
  refine .inl ⟨by simpa using hk,?_⟩
  refine go_drawJ [1] [(false,false),(true,false),(false,true),(false,false)] (tk:=[]) (by kernel_rfl) (by kernel_rfl) ?_
  have hl:∀ H,loadA Tryz.prog H gl.g 34 (.gptr 1 0)=some e1:=fun H=>by simp [loadA,ag34,h1]
  obtain ⟨t,v,rfl⟩:=hc1
  simp only [op_load0,op_store_x,op_build,op_assign,peek,take_tmp,takeV_agg,rdQ_some,tkQ_some,putA,clr_ptr,Option.bind_some,Option.map_some,true_and,ldChk,nth_cons0,nth_cons,List.set_cons_zero,List.set_cons_succ,oj_cons,oj_nil,ojV_val,ojV_skip,pendA_f,pendA_t,ag34,bld32,hl,clr_ifc,takeV_ifc,hst]
  refine ⟨fun _=>pend_load (p:=.gptr 1 0) rfl (hl _) rfl,?_⟩
  simp only [go_ret,go_nil,go_c_ret,Fx]
  refine ⟨trivial,[.agg zF,.ifc t v],?_,by simp [tupOf,clr],trivial⟩
  simp only [resultsA,nth_cons0,nth_cons,hlr]
  rfl
end Go.Proofs.YtkbdcmehffmfpaaGreatDoor
namespace Go.Proofs.YtkbdcmehffmfpaaGreatDoor
set_option maxRecDepth 10000
open Go Go.Vm Go.Vm.Sx
variable {gl:Gl} [NoU gl]
theorem lent28:lentP Tryz.prog Tryz.f28.params.toList=some []:=by kernel_rfl
theorem lent30:lentP Tryz.prog Tryz.f30.params.toList=some []:=by kernel_rfl
theorem lent29:lentP Tryz.prog Tryz.f29.params.toList=some []:=by kernel_rfl
theorem lent16:lentP Tryz.prog Tryz.f16.params.toList=some []:=by kernel_rfl
theorem lent5:lentP Tryz.prog Tryz.f5.params.toList=some []:=by kernel_rfl
def chkP (e:E):Bool:=(partsM e 1 0 0).1
def sizP (e:E):Int:=bif (partsM e 1 0 0).1 then (bif ltz 1001 (partsM e 1 0 0).2.2 then 1001 else (partsM e 1 0 0).2.2) else 0
theorem ev28 (hgl:GL gl):∀ (e:E),Wf e→Ev Tryz.prog gl 28 [.d (enc e)] [] (.bool (chkP e)) []
 | .mk op pl s0 s1 s2 s3 text mn mx nl args,hw=>by
  refine fun_pure (xs:=[enc (.mk op pl s0 s1 s2 s3 text mn mx nl args)]) hgl.top (hgl.no 28 rfl) tree28_ok Tryz.func28 lent28 parE (by simp [tops,top_enc]) (N:=1) ?_
  have hc:=phE_eq (ev49 hgl (.mk op pl s0 s1 s2 s3 text mn mx nl args) hw 1 0 0)
  simp only [tree28,enc,chkP,av49,fp49,out49] at hc ⊢
  simp only [ev_out,ev_letv,ev_opn,ev_kin,ev_call,at_z,at_s,ks_cons,kInt,kStr,kBool,ks_nil,Bool.and_self,bif_t,cons_app,nil_app,app_nil,evI,evCs,evC,evSC,evAs,evA,evLent,evVE,joinL,sizesOk,clr_int,clr_str,Nat.beq_refl,List.length_cons,List.length_nil,kArg,clr_argV,hc]
theorem ev30 (hgl:GL gl):∀ (e:E),Wf e→Ev Tryz.prog gl 30 [.d (enc e)] [] (.int .i64 (sizP e)) []
 | .mk op pl s0 s1 s2 s3 text mn mx nl args,hw=>by
  refine fun_pure (xs:=[enc (.mk op pl s0 s1 s2 s3 text mn mx nl args)]) hgl.top (hgl.no 30 rfl) tree30_ok Tryz.func30 lent30 parE (by simp [tops,top_enc]) (N:=1) ?_
  have hc:=phE_eq (ev49 hgl (.mk op pl s0 s1 s2 s3 text mn mx nl args) hw 1 0 0)
  simp only [tree30,enc,sizP,av49,fp49,out49] at hc ⊢
  generalize partsM (.mk op pl s0 s1 s2 s3 text mn mx nl args) 1 0 0=q at hc ⊢
  obtain ⟨b,n',s'⟩:=q
  cases b with
  | false=>simp only [ev_t,ev_out,ev_letv,ev_opn,ev_kin,ev_call,at_z,at_s,ks_cons,kInt,kStr,kBool,ks_nil,Bool.and_self,Bool.not_false,bif_t,bif_f,cons_app,nil_app,app_nil,evB,evI,evCs,evC,evSC,evAs,evA,evLent,evVE,vB_bool,joinL,sizesOk,clr_int,clr_str,Nat.beq_refl,List.length_cons,List.length_nil,kArg,clr_argV,hc]
  | true =>
   cases h2:ltz 1001 s' with
   | false=>simp only [ev_f,ev_out,ev_letv,ev_opn,ev_kin,ev_call,at_z,at_s,ks_cons,kInt,kStr,kBool,ks_nil,Bool.and_self,Bool.not_true,bif_t,bif_f,cons_app,nil_app,app_nil,evB,evI,evCs,evC,evSC,evAs,evA,evLent,evVE,vI_int,vB_bool,cm_lss,joinL,sizesOk,clr_int,clr_str,Nat.beq_refl,List.length_cons,List.length_nil,kArg,clr_argV,hc,h2]
   | true=>simp only [ev_f,ev_out,ev_letv,ev_opn,ev_kin,ev_call,at_z,at_s,ks_cons,kInt,kStr,kBool,ks_nil,Bool.and_self,Bool.not_true,bif_t,cons_app,nil_app,app_nil,evB,evI,evCs,evC,evSC,evAs,evA,evLent,evVE,vI_int,vB_bool,cm_lss,joinL,sizesOk,clr_int,clr_str,Nat.beq_refl,List.length_cons,List.length_nil,kArg,clr_argV,hc,h2]
def zeroB:E→Bool
 | .mk op pl s0 s1 s2 s3 text mn mx _ args=>(((((((op == 0) && (pl == 0)) && (s0 == 0 && (s1 == 0 && (s2 == 0 && s3 == 0)))) && eqL text []) && (mn == 0)) && (mx == 0)) && ((args.length:Int) == 0))
theorem ev29 (hgl:GL gl):∀ (e:E),Ev Tryz.prog gl 29 [.d (enc e)] [] (.bool (zeroB e)) []
 | .mk op pl s0 s1 s2 s3 text mn mx nl args=>by
  refine fun_pure (xs:=[enc (.mk op pl s0 s1 s2 s3 text mn mx nl args)]) hgl.top (hgl.no 29 rfl) tree29_ok Tryz.func29 lent29 parE (by simp [tops,top_enc]) (N:=1) ?_
  simp only [tree29,enc]
  simp only [ev_out,ev_letv,ev_opn,at_z,at_s,ks_cons,kInt,kStr,ks_nil,Bool.and_self,bif_t,cons_app,nil_app,evB,evI,evS,evL,evCs,evC,evSC,evVE,vI_int,vS_str,cm_eql,cmS,kArg,vL_arg,zeroB,encs_length]
theorem coresV_lv (nl:Bool) (l:List Cr):coresV nl l=lv 21 nl (l.map crV):=by cases l<;>cases nl<;>rfl
theorem crV_mk (op pl s0 s1 s2 s3 mn mx:Int) (text:List Nat) (nl:Bool) (args:List E) (t:Bool) (op' pl' s0' s1' s2' s3' mn' mx':Int) (text':List Nat) (nl':Bool) (args':List E) :
  crV (.mk op pl s0 s1 s2 s3 text mn mx nl args,t,.mk op' pl' s0' s1' s2' s3' text' mn' mx' nl' args')=.agg [.int .i64 op,.int .i64 pl,.int .u64 s0,.int .u64 s1,.int .u64 s2,.int .u64 s3,.str text,.int .i64 mn,.int .i64 mx,argV nl (encs args),.bool t,.int .i64 op',.int .i64 pl',.int .u64 s0',.int .u64 s1',.int .u64 s2',.int .u64 s3',.str text',.int .i64 mn',.int .i64 mx',argV nl' (encs args')]:=rfl
theorem nth_cr {l:List Cr} {i:Nat} {c:Cr} (h:l[i]?=some c):nth (l.map crV) i=some (crV c):=by rw [nth_eq,List.getElem?_map,h];rfl
theorem k_cores (nl:Bool) (l:List Cr):kOk (.sl 21) (coresV nl l)=true:=by rw [coresV_lv];exact k_lv ..
theorem vL_cores (nl:Bool) (l:List Cr):vL (coresV nl l)=l.map crV:=by rw [coresV_lv];exact vL_lv ..
theorem top_cr (c:Cr):(crV c).top=0:=crC_tops c
theorem top_cores (nl:Bool) (l:List Cr):(coresV nl l).top=0:=by
 rw [coresV_lv,top_lv];exact tops_mp top_cr _
theorem parC {x:V}:ParOk Tryz.prog [22] [.d x] 0:=by
 refine ⟨fun e=>?_,trivial⟩
 rw [Tryz.underlying22];simp
theorem parC2 {x y:V}:ParOk Tryz.prog [22,3] [.d x,.d y] 0:=by
 refine ⟨fun e=>?_,fun e=>?_,trivial⟩
 ·rw [Tryz.underlying22];simp
 ·rw [Tryz.underlying3];simp
def WfC (c:Cr):Prop:=Wf c.1∧Wf c.2.2
def okC' (c:Cr):Bool:=chkP c.1 && (bif c.2.1 then chkP c.2.2 else zeroB c.2.2)
def addS (p:Int) (c:Cr):Int:=bif ltz 1001 (IntKind.i64.wrap (IntKind.i64.wrap (p+sizP c.1)+sizP c.2.2)) then 1001 else IntKind.i64.wrap (IntKind.i64.wrap (p+sizP c.1)+sizP c.2.2)
def mayF:Int→List Cr→Int×Bool
 | p,[]=>(p,true)
 | p,c::l=>bif okC' c then mayF (addS p c) l else (0,false)
def mayM (l:List Cr):Int×Bool:=bif ltz 200 (l.length:Int) then (0,false) else mayF 0 l
theorem ev16 (hgl:GL gl) (nl:Bool) (l:List Cr) (hl:l.length≤maxLen) (hw:∀ c∈l,WfC c):Ev Tryz.prog gl 16 [.d (coresV nl l)] [] (.tup [.int .i64 (mayM l).1,.bool (mayM l).2]) []:=by
 have hml:=maxLen_le
 refine fun_pure (xs:=[coresV nl l]) hgl.top (hgl.no 16 rfl) tree16_ok Tryz.func16 lent16 parC (by simp [tops,top_cores]) (N:=l.length+1) ?_
 have key:∀ (r:List Cr) (i:Nat) (p:Int),l.drop i=r→∀ k,r.length<k→loopI (phE Tryz.prog gl) gl (l.length+1) lp16_1 [coresV nl l] k [.int .i64 p,.int .i64 (i:Int)]=some (0,[.tup [.int .i64 (mayF p r).1,.bool (mayF p r).2]]):=by
  simp only [lp16_1]
  intro r
  induction r with
  | nil =>
   intro i p hd k hk
   obtain ⟨k,rfl⟩:∃ k',k=k'+1:=⟨k - 1,by omega⟩
   refine loopI_end ?_
   have h1:=ltn_f (drop_none hd)
   simp only [ev_f,ev_out,ev_esc,ev_letv,at_z,at_s,cons_app,nil_app,evB,evI,evL,evCs,evC,evSC,evSCs,evVE,vI_int,cm_lss,clr_int,vL_cores,h1,List.length_map,mayF]
  | cons c r ih =>
   intro i p hd k hk
   obtain ⟨k,rfl⟩:∃ k',k=k'+1:=⟨k - 1,by omega⟩
   obtain ⟨hc,hi,hd'⟩:=drop_cons hd
   have h1:=ltn_t hi
   have h2:=nth_cr hc
   have h4:=w64s (i:=i) (by omega)
   have hcm:=hw c (List.mem_of_getElem? hc)
   have e1:=phE_eq (ev28 hgl c.1 hcm.1)
   have e2:=phE_eq (ev28 hgl c.2.2 hcm.2)
   have e3:=phE_eq (ev30 hgl c.1 hcm.1)
   have e4:=phE_eq (ev30 hgl c.2.2 hcm.2)
   have e5:=phE_eq (ev29 hgl c.2.2)
   have hgo:okC' c=true→mayF p (c::r)=mayF (addS p c) r:=fun h=>by simp only [mayF,h,cond_true]
   have hno:okC' c=false→mayF p (c::r)=(0,false):=fun h=>by simp only [mayF,h,cond_false]
   have hih:=ih (i+1) (addS p c) hd' k (by simp at hk;omega)
   obtain ⟨⟨op,pl,s0,s1,s2,s3,text,mn,mx,nl1,args⟩,t,⟨op',pl',s0',s1',s2',s3',text',mn',mx',nl',args'⟩⟩:=c
   simp only [okC',addS] at hgo hno hih
   simp only [enc] at e1 e2 e3 e4 e5
   rw [crV_mk] at h2
   cases hA:chkP (.mk op pl s0 s1 s2 s3 text mn mx nl1 args) with
   | false =>
    rw [hno (by rw [hA];rfl)]
    refine loopI_end ?_
    cases t<;>simp only [ev_t,ev_f,ev_out,ev_esc,ev_letv,ev_elem,ev_opn,ev_kin,ev_call,at_z,at_s,ks_cons,kInt,kStr,kBool,ks_nil,Bool.and_self,Bool.and_true,Bool.not_true,Bool.not_false,bif_t,bif_f,cons_app,nil_app,evB,evI,evL,evCs,evC,evSC,evSCs,evAs,evA,evLent,evVE,vI_int,vB_bool,cm_lss,ltn_0,joinL,sizesOk,clr_int,clr_str,vL_cores,clr_argV,kArg,h1,h2,e1,hA,List.length_map,Int.toNat_natCast]
   | true =>
    cases t with
    | true =>
     cases hB:chkP (.mk op' pl' s0' s1' s2' s3' text' mn' mx' nl' args') with
     | false =>
      rw [hno (by rw [hA,hB];rfl)]
      refine loopI_end ?_
      simp only [ev_t,ev_out,ev_esc,ev_letv,ev_elem,ev_opn,ev_kin,ev_call,at_z,at_s,ks_cons,kInt,kStr,kBool,ks_nil,Bool.and_self,Bool.not_false,bif_t,bif_f,cons_app,nil_app,evB,evI,evL,evCs,evC,evSC,evSCs,evAs,evA,evLent,evVE,vI_int,vB_bool,cm_lss,ltn_0,joinL,sizesOk,clr_int,clr_str,vL_cores,clr_argV,kArg,h1,h2,e1,e2,hA,hB,List.length_map,Int.toNat_natCast]
     | true =>
      rw [hgo (by rw [hA,hB];rfl)]
      refine loopI_go (vs:=[.int .i64 _,.int .i64 ((i+1:Nat):Int)]) ?_ hih
      cases h9:ltz 1001 (IntKind.i64.wrap (IntKind.i64.wrap (p+sizP (.mk op pl s0 s1 s2 s3 text mn mx nl1 args))+sizP (.mk op' pl' s0' s1' s2' s3' text' mn' mx' nl' args'))) <;>
      simp only [ev_t,ev_f,ev_out,ev_elem,ev_opn,ev_kin,ev_call,at_z,at_s,ks_cons,kInt,kStr,kBool,ks_nil,Bool.and_self,Bool.not_true,bif_t,bif_f,cons_app,nil_app,evB,evI,evL,evCs,evC,evSC,evAs,evA,evLent,vI_int,vB_bool,cm_lss,biI,ltn_0,joinL,sizesOk,clr_int,clr_str,vL_cores,clr_argV,kArg,h1,h2,h4,e1,e2,e3,e4,hA,hB,h9,List.length_map,Int.toNat_natCast]
    | false =>
     cases hB:zeroB (.mk op' pl' s0' s1' s2' s3' text' mn' mx' nl' args') with
     | false =>
      rw [hno (by rw [hA,hB];rfl)]
      refine loopI_end ?_
      simp only [ev_t,ev_f,ev_out,ev_esc,ev_letv,ev_elem,ev_opn,ev_kin,ev_call,at_z,at_s,ks_cons,kInt,kStr,kBool,ks_nil,Bool.and_self,Bool.and_false,Bool.not_false,bif_t,bif_f,cons_app,nil_app,evB,evI,evL,evCs,evC,evSC,evSCs,evAs,evA,evLent,evVE,vI_int,vB_bool,cm_lss,ltn_0,joinL,sizesOk,clr_int,clr_str,vL_cores,clr_argV,kArg,h1,h2,e1,e5,hA,hB,List.length_map,Int.toNat_natCast]
     | true =>
      rw [hgo (by rw [hA,hB];rfl)]
      refine loopI_go (vs:=[.int .i64 _,.int .i64 ((i+1:Nat):Int)]) ?_ hih
      cases h9:ltz 1001 (IntKind.i64.wrap (IntKind.i64.wrap (p+sizP (.mk op pl s0 s1 s2 s3 text mn mx nl1 args))+sizP (.mk op' pl' s0' s1' s2' s3' text' mn' mx' nl' args'))) <;>
      simp only [ev_t,ev_f,ev_out,ev_elem,ev_opn,ev_kin,ev_call,at_z,at_s,ks_cons,kInt,kStr,kBool,ks_nil,Bool.and_self,Bool.and_false,Bool.not_true,Bool.not_false,bif_t,bif_f,cons_app,nil_app,evB,evI,evL,evCs,evC,evSC,evAs,evA,evLent,vI_int,vB_bool,cm_lss,biI,ltn_0,joinL,sizesOk,clr_int,clr_str,vL_cores,clr_argV,kArg,h1,h2,h4,e1,e5,e3,e4,hA,hB,h9,List.length_map,Int.toNat_natCast]
 simp only [tree16]
 cases h0:ltz 200 (l.length:Int) with
 | true=>simp only [ev_t,ev_out,ev_letv,ev_kin,at_z,at_s,bif_t,cons_app,nil_app,evB,evI,evL,evCs,evC,evSC,evSCs,evVE,cm_gtr,k_cores,vL_cores,h0,mayM,List.length_map]
 | false =>
  simp only [ev_f,ev_kin,ev_loop,at_z,bif_f,evB,evI,evL,evCs,evC,cm_gtr,k_cores,vL_cores,h0,mayM,List.length_map]
  exact loopT_I (key l 0 0 (by simp) _ (by omega))
def smallF:Int→List Cr→Int
 | n,[]=>n
 | n,c::l=>smallF (IntKind.i64.wrap (IntKind.i64.wrap (n+sizeM c.1 0)+sizeM c.2.2 0)) l
theorem ev5 (hgl:GL gl) (nl:Bool) (l:List Cr) (hl:l.length≤maxLen) (hw:∀ c∈l,WfC c) (most:Int):Ev Tryz.prog gl 5 [.d (coresV nl l),.d (.int .i64 most)] [] (.bool (lez (smallF 0 l) most)) []:=by
 have hml:=maxLen_le
 refine fun_pure (xs:=[coresV nl l,.int .i64 most]) hgl.top (hgl.no 5 rfl) tree5_ok Tryz.func5 lent5 parC2 (by simp [tops,top_cores];rfl) (N:=l.length+1) ?_
 have key:∀ (r:List Cr) (i:Nat) (p:Int),l.drop i=r→∀ k,r.length<k→loopI (phE Tryz.prog gl) gl (l.length+1) lp5_1 [coresV nl l,.int .i64 most] k [.int .i64 p,.int .i64 (i:Int)]=some (0,[.bool (lez (smallF p r) most)]):=by
  simp only [lp5_1]
  intro r
  induction r with
  | nil =>
   intro i p hd k hk
   obtain ⟨k,rfl⟩:∃ k',k=k'+1:=⟨k - 1,by omega⟩
   refine loopI_end ?_
   have h1:=ltn_f (drop_none hd)
   simp only [ev_f,ev_out,ev_esc,ev_letv,at_z,at_s,cons_app,nil_app,evB,evI,evL,evCs,evC,evSC,evVE,vI_int,cm_lss,cm_leq,vL_cores,h1,List.length_map,smallF]
  | cons c r ih =>
   intro i p hd k hk
   obtain ⟨k,rfl⟩:∃ k',k=k'+1:=⟨k - 1,by omega⟩
   obtain ⟨hc,hi,hd'⟩:=drop_cons hd
   have h1:=ltn_t hi
   have h2:=nth_cr hc
   have h4:=w64s (i:=i) (by omega)
   have hcm:=hw c (List.mem_of_getElem? hc)
   have e1:=phE_eq (ev11 hgl c.1 hcm.1 0)
   have e2:=phE_eq (ev11 hgl c.2.2 hcm.2 0)
   have hih:=ih (i+1) (IntKind.i64.wrap (IntKind.i64.wrap (p+sizeM c.1 0)+sizeM c.2.2 0)) hd' k (by simp at hk;omega)
   refine loopI_go (vs:=[.int .i64 _,.int .i64 ((i+1:Nat):Int)]) ?_ hih
   obtain ⟨⟨op,pl,s0,s1,s2,s3,text,mn,mx,nl1,args⟩,t,⟨op',pl',s0',s1',s2',s3',text',mn',mx',nl',args'⟩⟩:=c
   simp only [enc] at e1 e2
   rw [crV_mk] at h2
   simp only [ev_t,ev_out,ev_elem,ev_opn,ev_kin,ev_call,at_z,at_s,ks_cons,kInt,kStr,kBool,ks_nil,Bool.and_self,bif_t,bif_f,cons_app,nil_app,evB,evI,evL,evCs,evC,evSC,evAs,evA,evLent,vI_int,cm_lss,biI,ltn_0,joinL,sizesOk,vL_cores,kArg,h1,h2,h4,e1,e2,List.length_map,Int.toNat_natCast]
 simp only [tree5]
 simp only [ev_kin,ev_loop,at_z,at_s,kInt,evI,evCs,evC,k_cores]
 exact loopT_I (key l 0 0 (by simp) _ (by omega))
end Go.Proofs.YtkbdcmehffmfpaaGreatDoor
