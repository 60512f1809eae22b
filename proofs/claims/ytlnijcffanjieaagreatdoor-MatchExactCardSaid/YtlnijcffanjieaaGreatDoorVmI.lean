/- S7: errors.Is and errors.As, of errors of errors.New's make. Conditions: none but those named. -/
import Derived.Test.YtlnijcffanjieaaGreatDoorProg
import Derived.WalkKit
import Derived.LaidEql
import Derived.Stop.Asserts
import Derived.RowKitTokens
import Derived.Test.YtlnijcffanjieaaGreatDoorVmA
set_option linter.defProp false
namespace Go.Proofs.YtlnijcffanjieaaGreatDoor
open Go.Proofs.Tryz
set_option maxRecDepth 100000
open Go.RowKit Go.Extern.Stop Go.Stop Go.Extern
def zdf(v:Value)(w:World):(Extern.ReflectliteType.typeOf #[.iface 373 v]).run prog w=.ok (.iface 266 (.agg #[.pointer (some ⟨18,373,none⟩)])) w:=by kernel_rfl
def I9:Array Value->Sem Value:=Extern.ReflectliteType.method λt=>do Rtype.noPackHeld "Comparable" t;pure (.bool (<- typeInfo t).comparable)
def zbt(w:World):(I9 #[.agg #[.pointer (some ⟨18,373,none⟩)]]).run prog w=.ok (.bool true) w:=by kernel_rfl
def zaT(v:Value)(w:World):(Go.method 507 266 v "Comparable").run prog w=.ok (310,v) w:=by kernel_rfl
def zkP:(prog.info? 373).map (·.comparable)=some true:=by kernel_rfl
def zkQ:(prog.info? 395).map (·.size)=some 1:=by kernel_rfl
def zpm(v:Value)(xT:TypeId)(w:World):(Instr.typeAssert (.iface 373 v) xT 317 true).run prog w=.ok (.tuple #[.nilIface,.bool false]) w:=run_typeAssert_lacksB underlying317 (by kernel_rfl) (by kernel_rfl) v xT w
def zpn(v:Value)(xT:TypeId)(w:World):(Instr.typeAssert (.iface 373 v) xT 270 true).run prog w=.ok (.tuple #[.nilIface,.bool false]) w:=run_typeAssert_lacksB underlying270 (by kernel_rfl) (by kernel_rfl) v xT w
def zdB(v:Value)(xT:TypeId)(w:World):(Instr.typeAssert (.iface 373 v) xT 273 true).run prog w=.ok (.tuple #[.nilIface,.bool false]) w:=run_typeAssert_lacksB underlying273 (by kernel_rfl) (by kernel_rfl) v xT w
def zcB(v:Value)(xT:TypeId)(w:World):(Instr.typeAssert (.iface 373 v) xT 275 true).run prog w=.ok (.tuple #[.nilIface,.bool false]) w:=run_typeAssert_lacksB underlying275 (by kernel_rfl) (by kernel_rfl) v xT w
def zpo(a:Addr)(w:World):Calls prog 104 #[.iface 373 (.pointer (some a)),.iface 373 (.pointer (some a))] w λe w'=>e=.returned (.bool true)/\w'=w:=by
 obtain⟨i,hi,O4⟩:=nq.1 zkP;obtain⟨j,hj,Lu⟩:=nq.1 zkQ;have h8:=@run_callFunc_extern prog 138 _ Extern.ReflectliteType.typeOf func138 (by kernel_rfl) (by kernel_rfl) (by kernel_rfl) (by kernel_rfl)
 have h32:=@run_callFunc_extern prog 310 _ I9 func310 (by kernel_rfl) (by kernel_rfl) (by kernel_rfl) (by kernel_rfl)
 have tT:=zdf;have cT:=zbt;have mR:=zaT;have heq:=run_eql_iface_ptr_same (P:=prog) w a underlying38 underlying373 hi O4 hj
 go_enter func104,ntmps104
 go_wp2
 refine wp_loop_rounds 1 ?_;rw[rounds_succ]
 go_wp2
 go_ret
 exact⟨rfl,rfl⟩
def znJ(a b:Addr)(ca cb:Array Value)(ta tb:TypeId)(w:World)(cg:a≠b)(ha:w.heap[a.block]?=some (.cells ca ta (0,0)))(hb:w.heap[b.block]?=some (.cells cb tb (0,0))) :
  Calls prog 104 #[.iface 373 (.pointer (some a)),.iface 373 (.pointer (some b))] w λe w'=>e=.returned (.bool false)/\w'=w:=by
 obtain⟨i,hi,O4⟩:=nq.1 zkP;obtain⟨j,hj,Lu⟩:=nq.1 zkQ;have h8:=@run_callFunc_extern prog 138 _ Extern.ReflectliteType.typeOf func138 (by kernel_rfl) (by kernel_rfl) (by kernel_rfl) (by kernel_rfl)
 have h32:=@run_callFunc_extern prog 310 _ I9 func310 (by kernel_rfl) (by kernel_rfl) (by kernel_rfl) (by kernel_rfl)
 have tT:=zdf;have cT:=zbt;have mR:=zaT;have nE:=zpm;have uE:=zdB;have vE:=zcB;have heq:=run_eql_iface_ptr_other (P:=prog) w underlying38 underlying373 hi O4 hj (by rw[Lu];decide) cg ha hb
 go_enter func104,ntmps104
 go_wp2
 refine wp_loop_rounds 1 ?_;rw[rounds_succ]
 go_wp2
 go_ret
 exact⟨rfl,rfl⟩
def zq7(z:Sem Value)(f:TypeId->Addr->Nat->Nat->Sem Value)(v:Value) :
  ReflectliteValue.method z f #[v]=(do match <- ReflectliteValue.parts v with|none=>z|some (t,a,fl)=>f t a fl (fl % 32)):=rfl
def znK(h:Value)(w:World):(Go.method 507 266 (.agg #[h]) "Kind").run prog w=.ok (267,h) w:=by kernel_rfl
def znL(h:Value)(w:World):(Go.method 507 266 (.agg #[h]) "Elem").run prog w=.ok (311,.agg #[h]) w:=by kernel_rfl
def ze1(h:Value)(w:World):(Go.method 507 266 (.agg #[h]) "Implements").run prog w=.ok (312,.agg #[h]) w:=by kernel_rfl
def zdg(h:Value)(w:World):(Go.method 507 266 (.agg #[h]) "AssignableTo").run prog w=.ok (309,.agg #[h]) w:=by kernel_rfl
structure Hx(tt te:TypeId):Prop where
 und:prog.underlying tt=some (.pointer te)
 valueOf (t:Addr) (w:World):(ReflectliteValue.unpack (.iface tt (.pointer (some t)))).run prog w=.ok (.agg #[.pointer (some ⟨18,tt,none⟩),.pointer (some ⟨w.heap.size,0,none⟩),.int .u64 150]) (w.alloc (.cells #[.pointer (some t)] tt))
 type (a:Addr) (w:World):(ReflectliteValue.methodAny (ReflectliteValue.valueError "reflectlite.Value.Type" 0) (λt _ _ _=>ReflectliteType.toType t) #[.agg #[.pointer (some ⟨18,tt,none⟩),.pointer (some a),.int .u64 150]]).run prog w=.ok (.iface 266 (.agg #[.pointer (some ⟨18,tt,none⟩)])) w
 kind (w:World):((ReflectliteType.abiMethod λt=>(λa:Nat=>Value.int IntKind.u8 (a:Int)) <$> Rtype.kind t) #[.pointer (some ⟨18,tt,none⟩)]).run prog w=.ok (.int .u8 22) w
 T5 (w:World):((ReflectliteType.abiMethod λt=>(λa:Nat=>Value.int IntKind.u8 (a:Int)) <$> Rtype.kind t) #[.pointer (some ⟨18,te,none⟩)]).run prog w=.ok (.int .u8 22) w
 parts (a:Addr) (w:World):(ReflectliteValue.parts (.agg #[.pointer (some ⟨18,tt,none⟩),.pointer (some a),.int .u64 150])).run prog w=.ok (some (tt,a,150)) w
 elem (w:World):(ReflectliteType.method ReflectliteType.elem #[.agg #[.pointer (some ⟨18,tt,none⟩)]]).run prog w=.ok (.iface 266 (.agg #[.pointer (some ⟨18,te,none⟩)])) w
 implements (w:World):(ReflectliteType.relation "Implements" ReflectliteType.implements_ #[.agg #[.pointer (some ⟨18,te,none⟩)],.iface 266 (.agg #[.pointer (some ⟨18,38,none⟩)])]).run prog w=.ok (.bool true) w
 assignable (w:World):(ReflectliteType.relation "AssignableTo" ReflectliteType.assignableTo #[.agg #[.pointer (some ⟨18,373,none⟩)],.iface 266 (.agg #[.pointer (some ⟨18,te,none⟩)])]).run prog w=.ok (.bool false) w
def Hx.isNil{tt te:TypeId}(F:Hx tt te)(a p:Addr)(W:World)(ha:W.cell? a=some (.pointer (some p))) :
  (ReflectliteValue.method (ReflectliteValue.valueError "reflectlite.Value.IsNil" 0) ReflectliteValue.isNil #[.agg #[.pointer (some ⟨18,tt,none⟩),.pointer (some a),.int .u64 150]]).run prog W=.ok (.bool false) W:=by
 rw[zq7];simp only[Sem.run_bind,F.parts,Result.andThen];simp[ReflectliteValue.isNil,loadVar,isAgg,underlying,F.und,ha,Result.andThen]
def O5:Hx 166 164:=⟨underlying166,λ_ _=>by kernel_rfl,λ_ _=>by kernel_rfl,λ_=>by kernel_rfl,λ_=>by kernel_rfl,λ_ _=>by kernel_rfl,λ_=>by kernel_rfl,λ_=>by kernel_rfl,λ_=>by kernel_rfl⟩
def O6:Hx 170 169:=⟨underlying170,λ_ _=>by kernel_rfl,λ_ _=>by kernel_rfl,λ_=>by kernel_rfl,λ_=>by kernel_rfl,λ_ _=>by kernel_rfl,λ_=>by kernel_rfl,λ_=>by kernel_rfl,λ_=>by kernel_rfl⟩
def O7:Hx 175 174:=⟨underlying175,λ_ _=>by kernel_rfl,λ_ _=>by kernel_rfl,λ_=>by kernel_rfl,λ_=>by kernel_rfl,λ_ _=>by kernel_rfl,λ_=>by kernel_rfl,λ_=>by kernel_rfl,λ_=>by kernel_rfl⟩
def O8:Hx 179 178:=⟨underlying179,λ_ _=>by kernel_rfl,λ_ _=>by kernel_rfl,λ_=>by kernel_rfl,λ_=>by kernel_rfl,λ_ _=>by kernel_rfl,λ_=>by kernel_rfl,λ_=>by kernel_rfl,λ_=>by kernel_rfl⟩
set_option maxHeartbeats 4000000 in
def zpp{tt te:TypeId}(F:Hx tt te)(e t:Addr)(w:World)(hg:w.cell? ⟨3,0,none⟩=some (.iface 266 (.agg #[.pointer (some ⟨18,38,none⟩)]))) :
  Calls prog 88 #[.iface 373 (.pointer (some e)),.iface tt (.pointer (some t))] w λev w'=>ev=.returned (.bool false)/\w'=((w.alloc (.cells #[.pointer (some t)] tt)).alloc (.cells #[.pointer (some ⟨18,tt,none⟩),.pointer (some ⟨w.heap.size,0,none⟩),.int .u64 150] 214)).alloc (.cells #[.pointer (some ⟨18,tt,none⟩),.pointer (some ⟨w.heap.size,0,none⟩),.int .u64 150] 214):=by
 have h6:=@run_callFunc_extern prog 106 _ (λargs=>ReflectliteValue.unpack (args.getD 0 (.tuple #[]))) func106 (by kernel_rfl) (by kernel_rfl) (by kernel_rfl) (by kernel_rfl)
 have h7:=@run_callFunc_extern prog 107 _ (ReflectliteValue.methodAny (ReflectliteValue.valueError "reflectlite.Value.Type" 0) (λt _ _ _=>ReflectliteType.toType t)) func107 (by kernel_rfl) (by kernel_rfl) (by kernel_rfl) (by kernel_rfl)
 have h8:=@run_callFunc_extern prog 108 _ (ReflectliteValue.method (ReflectliteValue.valueError "reflectlite.Value.IsNil" 0) ReflectliteValue.isNil) func108 (by kernel_rfl) (by kernel_rfl) (by kernel_rfl) (by kernel_rfl)
 have h27:=@run_callFunc_extern prog 267 _ (ReflectliteType.abiMethod λt=>do pure (.int .u8 (<- Rtype.kind t))) func267 (by kernel_rfl) (by kernel_rfl) (by kernel_rfl) (by kernel_rfl)
 have h37:=@run_callFunc_extern prog 311 _ (ReflectliteType.method ReflectliteType.elem) func311 (by kernel_rfl) (by kernel_rfl) (by kernel_rfl) (by kernel_rfl)
 have h38:=@run_callFunc_extern prog 312 _ (ReflectliteType.relation "Implements" ReflectliteType.implements_) func312 (by kernel_rfl) (by kernel_rfl) (by kernel_rfl) (by kernel_rfl)
 have h10:=@run_callFunc_extern prog 138 _ ReflectliteType.typeOf func138 (by kernel_rfl) (by kernel_rfl) (by kernel_rfl) (by kernel_rfl)
 have h35:=@run_callFunc_extern prog 309 _ (ReflectliteType.relation "AssignableTo" ReflectliteType.assignableTo) func309 (by kernel_rfl) (by kernel_rfl) (by kernel_rfl) (by kernel_rfl)
 have tO:=zdf;have mA:=zdg;have f6:=F.valueOf;have f7:=F.type;have mK:=znK;have mE:=znL;have mI:=ze1;have T2:=F.kind;have k25:=F.T5;have e27:=F.elem;have i25:=F.implements;have a25:=F.assignable;have nA:=zpn;have uE:=zdB;have vE:=zcB
 have n8:=F.isNil ⟨w.heap.size,0,none⟩ t ((w.alloc (.cells #[.pointer (some t)] tt)).alloc (.cells #[.pointer (some ⟨18,tt,none⟩),.pointer (some ⟨w.heap.size,0,none⟩),.int .u64 150] 214)) (by simp)
 have bu:3<w.heap.size:=by
  rcases iT 3 w.heap.size with h0|h
  ·exact h0
  ·simp[World.cell?,Array.getElem?_eq_none h] at hg
 have hg2:((w.alloc (.cells #[.pointer (some t)] tt)).alloc (.cells #[.pointer (some ⟨18,tt,none⟩),.pointer (some ⟨w.heap.size,0,none⟩),.int .u64 150] 214)).cell? ⟨3,0,none⟩=some (.iface 266 (.agg #[.pointer (some ⟨18,38,none⟩)])):=by
  rw[World.cell?_alloc_lt _ _ ⟨3,0,none⟩ (by simp;omega),World.cell?_alloc_lt _ _ ⟨3,0,none⟩ bu];exact hg
 go_enter func88,ntmps88
 go_wp2
 refine wp_loop_rounds 1 ?_;rw[rounds_succ]
 go_wp2
 go_ret
 exact⟨rfl,rfl⟩
end Go.Proofs.YtlnijcffanjieaaGreatDoor
