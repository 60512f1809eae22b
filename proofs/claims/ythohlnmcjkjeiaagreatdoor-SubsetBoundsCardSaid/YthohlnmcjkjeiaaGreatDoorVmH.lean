/- S8: errors.Is and errors.As, of errors of errors.New's make. Conditions: none but those named. -/
import Derived.Test.YthohlnmcjkjeiaaGreatDoorProg
import Derived.WalkKit
import Derived.LaidEql
import Derived.Stop.Asserts
import Derived.RowKitTokens
import Derived.Test.YthohlnmcjkjeiaaGreatDoorVmA
namespace Go.Proofs.YthohlnmcjkjeiaaGreatDoor
open Go.Proofs.Tryz
set_option maxRecDepth 100000
open Go.RowKit Go.Extern.Stop Go.Stop Go.Extern
theorem W5(v:Value)(w:World):(Extern.ReflectliteType.typeOf #[.iface 396 v]).run prog w=.ok (.iface 275 (.agg #[.pointer (some ⟨19,396,none⟩)])) w:=by kernel_rfl
def E8:Array Value->Sem Value:=Extern.ReflectliteType.method λt=>do Rtype.noPackHeld "Comparable" t;pure (.bool (<- typeInfo t).comparable)
theorem zaY(w:World):(E8 #[.agg #[.pointer (some ⟨19,396,none⟩)]]).run prog w=.ok (.bool true) w:=by kernel_rfl
theorem zai(v:Value)(w:World):(Go.method 529 275 v "Comparable").run prog w=.ok (316,v) w:=by kernel_rfl
theorem zjm:(prog.info? 396).map (·.comparable)=some true:=by kernel_rfl
theorem zjn:(prog.info? 417).map (·.size)=some 1:=by kernel_rfl
theorem znR(v:Value)(xT:TypeId)(w:World):(Instr.typeAssert (.iface 396 v) xT 320 true).run prog w=.ok (.tuple #[.nilIface,.bool false]) w:=run_typeAssert_lacksB underlying320 (by kernel_rfl) (by kernel_rfl) v xT w
theorem znS(v:Value)(xT:TypeId)(w:World):(Instr.typeAssert (.iface 396 v) xT 279 true).run prog w=.ok (.tuple #[.nilIface,.bool false]) w:=run_typeAssert_lacksB underlying279 (by kernel_rfl) (by kernel_rfl) v xT w
theorem zcC(v:Value)(xT:TypeId)(w:World):(Instr.typeAssert (.iface 396 v) xT 282 true).run prog w=.ok (.tuple #[.nilIface,.bool false]) w:=run_typeAssert_lacksB underlying282 (by kernel_rfl) (by kernel_rfl) v xT w
theorem zbL(v:Value)(xT:TypeId)(w:World):(Instr.typeAssert (.iface 396 v) xT 284 true).run prog w=.ok (.tuple #[.nilIface,.bool false]) w:=run_typeAssert_lacksB underlying284 (by kernel_rfl) (by kernel_rfl) v xT w
theorem znT(a:Addr)(w:World):Calls prog 123 #[.iface 396 (.pointer (some a)),.iface 396 (.pointer (some a))] w λe w'=>e=.returned (.bool true)/\w'=w:=by
 obtain⟨i,hi,Lp⟩:=mS.1 zjm;obtain⟨j,hj,Td⟩:=mS.1 zjn;have h8:=@run_callFunc_extern prog 155 _ Extern.ReflectliteType.typeOf func155 (by kernel_rfl) (by kernel_rfl) (by kernel_rfl) (by kernel_rfl)
 have h32:=@run_callFunc_extern prog 316 _ E8 func316 (by kernel_rfl) (by kernel_rfl) (by kernel_rfl) (by kernel_rfl)
 have tT:=W5;have cT:=zaY;have mR:=zai;have heq:=run_eql_iface_ptr_same (P:=prog) w a underlying37 underlying396 hi Lp hj
 go_enter func123,ntmps123
 go_wp2
 refine wp_loop_rounds 1 ?_;rw[rounds_succ]
 go_wp2
 go_ret
 exact⟨rfl,rfl⟩
theorem zlS(a b:Addr)(ca cb:Array Value)(ta tb:TypeId)(w:World)(cK:a≠b)(ha:w.heap[a.block]?=some (.cells ca ta (0,0)))(hb:w.heap[b.block]?=some (.cells cb tb (0,0))) :
  Calls prog 123 #[.iface 396 (.pointer (some a)),.iface 396 (.pointer (some b))] w λe w'=>e=.returned (.bool false)/\w'=w:=by
 obtain⟨i,hi,Lp⟩:=mS.1 zjm;obtain⟨j,hj,Td⟩:=mS.1 zjn;have h8:=@run_callFunc_extern prog 155 _ Extern.ReflectliteType.typeOf func155 (by kernel_rfl) (by kernel_rfl) (by kernel_rfl) (by kernel_rfl)
 have h32:=@run_callFunc_extern prog 316 _ E8 func316 (by kernel_rfl) (by kernel_rfl) (by kernel_rfl) (by kernel_rfl)
 have tT:=W5;have cT:=zaY;have mR:=zai;have nE:=znR;have uE:=zcC;have vE:=zbL;have heq:=run_eql_iface_ptr_other (P:=prog) w underlying37 underlying396 hi Lp hj (by rw[Td];decide) cK ha hb
 go_enter func123,ntmps123
 go_wp2
 refine wp_loop_rounds 1 ?_;rw[rounds_succ]
 go_wp2
 go_ret
 exact⟨rfl,rfl⟩
theorem zpg(z:Sem Value)(f:TypeId->Addr->Nat->Nat->Sem Value)(v:Value) :
  ReflectliteValue.method z f #[v]=(do match <- ReflectliteValue.parts v with|none=>z|some (t,a,fl)=>f t a fl (fl % 32)):=rfl
theorem zlT(h:Value)(w:World):(Go.method 529 275 (.agg #[h]) "Kind").run prog w=.ok (299,h) w:=by kernel_rfl
theorem zlU(h:Value)(w:World):(Go.method 529 275 (.agg #[h]) "Elem").run prog w=.ok (317,.agg #[h]) w:=by kernel_rfl
theorem zdD(h:Value)(w:World):(Go.method 529 275 (.agg #[h]) "Implements").run prog w=.ok (318,.agg #[h]) w:=by kernel_rfl
theorem zcj(h:Value)(w:World):(Go.method 529 275 (.agg #[h]) "AssignableTo").run prog w=.ok (315,.agg #[h]) w:=by kernel_rfl
structure En(tt te:TypeId):Prop where
 und:prog.underlying tt=some (.pointer te)
 valueOf (t:Addr) (w:World):(ReflectliteValue.unpack (.iface tt (.pointer (some t)))).run prog w=.ok (.agg #[.pointer (some ⟨19,tt,none⟩),.pointer (some ⟨w.heap.size,0,none⟩),.int .u64 150]) (w.alloc (.cells #[.pointer (some t)] tt))
 type (a:Addr) (w:World):(ReflectliteValue.methodAny (ReflectliteValue.valueError "reflectlite.Value.Type" 0) (λt _ _ _=>ReflectliteType.toType t) #[.agg #[.pointer (some ⟨19,tt,none⟩),.pointer (some a),.int .u64 150]]).run prog w=.ok (.iface 275 (.agg #[.pointer (some ⟨19,tt,none⟩)])) w
 kind (w:World):((ReflectliteType.abiMethod λt=>(λa:Nat=>Value.int IntKind.u8 (a:Int)) <$> Rtype.kind t) #[.pointer (some ⟨19,tt,none⟩)]).run prog w=.ok (.int .u8 22) w
 PC (w:World):((ReflectliteType.abiMethod λt=>(λa:Nat=>Value.int IntKind.u8 (a:Int)) <$> Rtype.kind t) #[.pointer (some ⟨19,te,none⟩)]).run prog w=.ok (.int .u8 22) w
 parts (a:Addr) (w:World):(ReflectliteValue.parts (.agg #[.pointer (some ⟨19,tt,none⟩),.pointer (some a),.int .u64 150])).run prog w=.ok (some (tt,a,150)) w
 elem (w:World):(ReflectliteType.method ReflectliteType.elem #[.agg #[.pointer (some ⟨19,tt,none⟩)]]).run prog w=.ok (.iface 275 (.agg #[.pointer (some ⟨19,te,none⟩)])) w
 implements (w:World):(ReflectliteType.relation "Implements" ReflectliteType.implements_ #[.agg #[.pointer (some ⟨19,te,none⟩)],.iface 275 (.agg #[.pointer (some ⟨19,37,none⟩)])]).run prog w=.ok (.bool true) w
 assignable (w:World):(ReflectliteType.relation "AssignableTo" ReflectliteType.assignableTo #[.agg #[.pointer (some ⟨19,396,none⟩)],.iface 275 (.agg #[.pointer (some ⟨19,te,none⟩)])]).run prog w=.ok (.bool false) w
theorem En.isNil{tt te:TypeId}(F:En tt te)(a p:Addr)(W:World)(ha:W.cell? a=some (.pointer (some p))) :
  (ReflectliteValue.method (ReflectliteValue.valueError "reflectlite.Value.IsNil" 0) ReflectliteValue.isNil #[.agg #[.pointer (some ⟨19,tt,none⟩),.pointer (some a),.int .u64 150]]).run prog W=.ok (.bool false) W:=by
 rw[zpg];simp only[Sem.run_bind,F.parts,Result.andThen];simp[ReflectliteValue.isNil,loadVar,isAgg,underlying,F.und,ha,Result.andThen]
theorem Lq:En 167 165:=⟨underlying167,λ_ _=>by kernel_rfl,λ_ _=>by kernel_rfl,λ_=>by kernel_rfl,λ_=>by kernel_rfl,λ_ _=>by kernel_rfl,λ_=>by kernel_rfl,λ_=>by kernel_rfl,λ_=>by kernel_rfl⟩
theorem Lr:En 171 170:=⟨underlying171,λ_ _=>by kernel_rfl,λ_ _=>by kernel_rfl,λ_=>by kernel_rfl,λ_=>by kernel_rfl,λ_ _=>by kernel_rfl,λ_=>by kernel_rfl,λ_=>by kernel_rfl,λ_=>by kernel_rfl⟩
theorem Ls:En 176 175:=⟨underlying176,λ_ _=>by kernel_rfl,λ_ _=>by kernel_rfl,λ_=>by kernel_rfl,λ_=>by kernel_rfl,λ_ _=>by kernel_rfl,λ_=>by kernel_rfl,λ_=>by kernel_rfl,λ_=>by kernel_rfl⟩
theorem Lt:En 180 179:=⟨underlying180,λ_ _=>by kernel_rfl,λ_ _=>by kernel_rfl,λ_=>by kernel_rfl,λ_=>by kernel_rfl,λ_ _=>by kernel_rfl,λ_=>by kernel_rfl,λ_=>by kernel_rfl,λ_=>by kernel_rfl⟩
set_option maxHeartbeats 4000000 in
theorem znU{tt te:TypeId}(F:En tt te)(e t:Addr)(w:World)(hg:w.cell? ⟨5,0,none⟩=some (.iface 275 (.agg #[.pointer (some ⟨19,37,none⟩)]))) :
  Calls prog 99 #[.iface 396 (.pointer (some e)),.iface tt (.pointer (some t))] w λev w'=>ev=.returned (.bool false)/\w'=((w.alloc (.cells #[.pointer (some t)] tt)).alloc (.cells #[.pointer (some ⟨19,tt,none⟩),.pointer (some ⟨w.heap.size,0,none⟩),.int .u64 150] 231)).alloc (.cells #[.pointer (some ⟨19,tt,none⟩),.pointer (some ⟨w.heap.size,0,none⟩),.int .u64 150] 231):=by
 have h6:=@run_callFunc_extern prog 125 _ (λargs=>ReflectliteValue.unpack (args.getD 0 (.tuple #[]))) func125 (by kernel_rfl) (by kernel_rfl) (by kernel_rfl) (by kernel_rfl)
 have h7:=@run_callFunc_extern prog 126 _ (ReflectliteValue.methodAny (ReflectliteValue.valueError "reflectlite.Value.Type" 0) (λt _ _ _=>ReflectliteType.toType t)) func126 (by kernel_rfl) (by kernel_rfl) (by kernel_rfl) (by kernel_rfl)
 have h8:=@run_callFunc_extern prog 127 _ (ReflectliteValue.method (ReflectliteValue.valueError "reflectlite.Value.IsNil" 0) ReflectliteValue.isNil) func127 (by kernel_rfl) (by kernel_rfl) (by kernel_rfl) (by kernel_rfl)
 have h27:=@run_callFunc_extern prog 299 _ (ReflectliteType.abiMethod λt=>do pure (.int .u8 (<- Rtype.kind t))) func299 (by kernel_rfl) (by kernel_rfl) (by kernel_rfl) (by kernel_rfl)
 have h37:=@run_callFunc_extern prog 317 _ (ReflectliteType.method ReflectliteType.elem) func317 (by kernel_rfl) (by kernel_rfl) (by kernel_rfl) (by kernel_rfl)
 have h38:=@run_callFunc_extern prog 318 _ (ReflectliteType.relation "Implements" ReflectliteType.implements_) func318 (by kernel_rfl) (by kernel_rfl) (by kernel_rfl) (by kernel_rfl)
 have Ck:=@run_callFunc_extern prog 155 _ ReflectliteType.typeOf func155 (by kernel_rfl) (by kernel_rfl) (by kernel_rfl) (by kernel_rfl)
 have h35:=@run_callFunc_extern prog 315 _ (ReflectliteType.relation "AssignableTo" ReflectliteType.assignableTo) func315 (by kernel_rfl) (by kernel_rfl) (by kernel_rfl) (by kernel_rfl)
 have tO:=W5;have mA:=zcj;have f6:=F.valueOf;have f7:=F.type;have mK:=zlT;have mE:=zlU;have mI:=zdD;have k27:=F.kind;have k25:=F.PC;have e27:=F.elem;have i25:=F.implements;have a25:=F.assignable;have nA:=znS;have uE:=zcC;have vE:=zbL
 have n8:=F.isNil ⟨w.heap.size,0,none⟩ t ((w.alloc (.cells #[.pointer (some t)] tt)).alloc (.cells #[.pointer (some ⟨19,tt,none⟩),.pointer (some ⟨w.heap.size,0,none⟩),.int .u64 150] 231)) (by simp)
 have bW:5<w.heap.size:=by
  rcases eY 5 w.heap.size with h0|h
  ·exact h0
  ·simp[World.cell?,Array.getElem?_eq_none h] at hg
 have BF:((w.alloc (.cells #[.pointer (some t)] tt)).alloc (.cells #[.pointer (some ⟨19,tt,none⟩),.pointer (some ⟨w.heap.size,0,none⟩),.int .u64 150] 231)).cell? ⟨5,0,none⟩=some (.iface 275 (.agg #[.pointer (some ⟨19,37,none⟩)])):=by
  rw[World.cell?_alloc_lt _ _ ⟨5,0,none⟩ (by simp;omega),World.cell?_alloc_lt _ _ ⟨5,0,none⟩ bW];exact hg
 go_enter func99,ntmps99
 go_wp2
 refine wp_loop_rounds 1 ?_;rw[rounds_succ]
 go_wp2
 go_ret
 exact⟨rfl,rfl⟩
end Go.Proofs.YthohlnmcjkjeiaaGreatDoor
