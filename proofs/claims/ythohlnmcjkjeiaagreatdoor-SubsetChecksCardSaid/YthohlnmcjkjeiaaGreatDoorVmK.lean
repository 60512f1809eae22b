/- S8: errors.Is and errors.As, of errors of errors.New's make. Conditions: none but those that each theorem names. Conditions: none but those that each theorem names. -/
import Derived.Test.YthohlnmcjkjeiaaGreatDoorProg
import Derived.WalkKit
import Derived.LaidEql
import Derived.Stop.Asserts
import Derived.RowKitTokens
import Derived.Test.YthohlnmcjkjeiaaGreatDoorVmA
namespace Go.Proofs.YthohlnmcjkjeiaaGreatDoor
set_option maxRecDepth 100000
open Go.RowKit Go.Extern.Stop Go.Stop Go.Extern
theorem zcy (v:Value) (w:World):(Extern.ReflectliteType.typeOf #[.iface 396 v]).run Tryz.prog w=.ok (.iface 275 (.agg #[.pointer (some ⟨19,396,none⟩)])) w:=by kernel_rfl
def erCmp:Array Value->Sem Value:=Extern.ReflectliteType.method fun t=>do Rtype.noPackHeld "Comparable" t;pure (.bool (<- typeInfo t).comparable)
theorem zaM (w:World):(erCmp #[.agg #[.pointer (some ⟨19,396,none⟩)]]).run Tryz.prog w=.ok (.bool true) w:=by kernel_rfl
theorem zaa (v:Value) (w:World):(Go.method 529 275 v "Comparable").run Tryz.prog w=.ok (316,v) w:=by kernel_rfl
theorem zkF:(Tryz.prog.info? 396).map (·.comparable)=some true:=by kernel_rfl
theorem zkG:(Tryz.prog.info? 417).map (·.size)=some 1:=by kernel_rfl
theorem zpg (v:Value) (xT:TypeId) (w:World):(Instr.typeAssert (.iface 396 v) xT 320 true).run Tryz.prog w=.ok (.tuple #[.nilIface,.bool false]) w:=run_typeAssert_lacksB Tryz.underlying320 (by kernel_rfl) (by kernel_rfl) v xT w
theorem zph (v:Value) (xT:TypeId) (w:World):(Instr.typeAssert (.iface 396 v) xT 279 true).run Tryz.prog w=.ok (.tuple #[.nilIface,.bool false]) w:=run_typeAssert_lacksB Tryz.underlying279 (by kernel_rfl) (by kernel_rfl) v xT w
theorem zcW (v:Value) (xT:TypeId) (w:World):(Instr.typeAssert (.iface 396 v) xT 282 true).run Tryz.prog w=.ok (.tuple #[.nilIface,.bool false]) w:=run_typeAssert_lacksB Tryz.underlying282 (by kernel_rfl) (by kernel_rfl) v xT w
theorem zbR (v:Value) (xT:TypeId) (w:World):(Instr.typeAssert (.iface 396 v) xT 284 true).run Tryz.prog w=.ok (.tuple #[.nilIface,.bool false]) w:=run_typeAssert_lacksB Tryz.underlying284 (by kernel_rfl) (by kernel_rfl) v xT w
theorem zpi (a:Addr) (w:World):Calls Tryz.prog 123 #[.iface 396 (.pointer (some a)),.iface 396 (.pointer (some a))] w fun e w'=>e=.returned (.bool true)/\w'=w:=by
 obtain ⟨i,hi,hcmp⟩:=zAV.1 zkF;obtain ⟨j,hj,hjs⟩:=zAV.1 zkG;have h8:=@run_callFunc_extern Tryz.prog 155 _ Extern.ReflectliteType.typeOf Tryz.func155 (by kernel_rfl) (by kernel_rfl) (by kernel_rfl) (by kernel_rfl)
 have h32:=@run_callFunc_extern Tryz.prog 316 _ erCmp Tryz.func316 (by kernel_rfl) (by kernel_rfl) (by kernel_rfl) (by kernel_rfl)
 have tT:=zcy;have cT:=zaM;have mR:=zaa;have heq:=run_eql_iface_ptr_same (P:=Tryz.prog) w a Tryz.underlying37 Tryz.underlying396 hi hcmp hj
 go_enter Tryz.func123,Tryz.ntmps123
 go_wp2
 refine wp_loop_rounds 1 ?_;rw [rounds_succ]
 go_wp2
 go_ret
 exact ⟨rfl,rfl⟩
theorem znB (a b:Addr) (ca cb:Array Value) (ta tb:TypeId) (w:World) (hne:a≠b) (ha:w.heap[a.block]?=some (.cells ca ta (0,0))) (hb:w.heap[b.block]?=some (.cells cb tb (0,0))) :
  Calls Tryz.prog 123 #[.iface 396 (.pointer (some a)),.iface 396 (.pointer (some b))] w fun e w'=>e=.returned (.bool false)/\w'=w:=by
 obtain ⟨i,hi,hcmp⟩:=zAV.1 zkF;obtain ⟨j,hj,hjs⟩:=zAV.1 zkG;have h8:=@run_callFunc_extern Tryz.prog 155 _ Extern.ReflectliteType.typeOf Tryz.func155 (by kernel_rfl) (by kernel_rfl) (by kernel_rfl) (by kernel_rfl)
 have h32:=@run_callFunc_extern Tryz.prog 316 _ erCmp Tryz.func316 (by kernel_rfl) (by kernel_rfl) (by kernel_rfl) (by kernel_rfl)
 have tT:=zcy;have cT:=zaM;have mR:=zaa;have nE:=zpg;have uE:=zcW;have vE:=zbR;have heq:=run_eql_iface_ptr_other (P:=Tryz.prog) w Tryz.underlying37 Tryz.underlying396 hi hcmp hj (by rw [hjs];decide) hne ha hb
 go_enter Tryz.func123,Tryz.ntmps123
 go_wp2
 refine wp_loop_rounds 1 ?_;rw [rounds_succ]
 go_wp2
 go_ret
 exact ⟨rfl,rfl⟩
theorem zqC (z:Sem Value) (f:TypeId->Addr->Nat->Nat->Sem Value) (v:Value) :
  ReflectliteValue.method z f #[v]=(do match <- ReflectliteValue.parts v with|none=>z|some (t,a,fl)=>f t a fl (fl % 32)):=rfl
theorem znC (h:Value) (w:World):(Go.method 529 275 (.agg #[h]) "Kind").run Tryz.prog w=.ok (299,h) w:=by kernel_rfl
theorem znD (h:Value) (w:World):(Go.method 529 275 (.agg #[h]) "Elem").run Tryz.prog w=.ok (317,.agg #[h]) w:=by kernel_rfl
theorem zem (h:Value) (w:World):(Go.method 529 275 (.agg #[h]) "Implements").run Tryz.prog w=.ok (318,.agg #[h]) w:=by kernel_rfl
theorem zcz (h:Value) (w:World):(Go.method 529 275 (.agg #[h]) "AssignableTo").run Tryz.prog w=.ok (315,.agg #[h]) w:=by kernel_rfl
structure AsF (tt te:TypeId):Prop where
 und:Tryz.prog.underlying tt=some (.pointer te)
 valueOf (t:Addr) (w:World):(ReflectliteValue.unpack (.iface tt (.pointer (some t)))).run Tryz.prog w=.ok (.agg #[.pointer (some ⟨19,tt,none⟩),.pointer (some ⟨w.heap.size,0,none⟩),.int .u64 150]) (w.alloc (.cells #[.pointer (some t)] tt))
 type (a:Addr) (w:World):(ReflectliteValue.methodAny (ReflectliteValue.valueError "reflectlite.Value.Type" 0) (fun t _ _ _=>ReflectliteType.toType t) #[.agg #[.pointer (some ⟨19,tt,none⟩),.pointer (some a),.int .u64 150]]).run Tryz.prog w=.ok (.iface 275 (.agg #[.pointer (some ⟨19,tt,none⟩)])) w
 kind (w:World):((ReflectliteType.abiMethod fun t=>(fun a:Nat=>Value.int IntKind.u8 (a:Int)) <$> Rtype.kind t) #[.pointer (some ⟨19,tt,none⟩)]).run Tryz.prog w=.ok (.int .u8 22) w
 kindE (w:World):((ReflectliteType.abiMethod fun t=>(fun a:Nat=>Value.int IntKind.u8 (a:Int)) <$> Rtype.kind t) #[.pointer (some ⟨19,te,none⟩)]).run Tryz.prog w=.ok (.int .u8 22) w
 parts (a:Addr) (w:World):(ReflectliteValue.parts (.agg #[.pointer (some ⟨19,tt,none⟩),.pointer (some a),.int .u64 150])).run Tryz.prog w=.ok (some (tt,a,150)) w
 elem (w:World):(ReflectliteType.method ReflectliteType.elem #[.agg #[.pointer (some ⟨19,tt,none⟩)]]).run Tryz.prog w=.ok (.iface 275 (.agg #[.pointer (some ⟨19,te,none⟩)])) w
 implements (w:World):(ReflectliteType.relation "Implements" ReflectliteType.implements_ #[.agg #[.pointer (some ⟨19,te,none⟩)],.iface 275 (.agg #[.pointer (some ⟨19,37,none⟩)])]).run Tryz.prog w=.ok (.bool true) w
 assignable (w:World):(ReflectliteType.relation "AssignableTo" ReflectliteType.assignableTo #[.agg #[.pointer (some ⟨19,396,none⟩)],.iface 275 (.agg #[.pointer (some ⟨19,te,none⟩)])]).run Tryz.prog w=.ok (.bool false) w
theorem AsF.isNil {tt te:TypeId} (F:AsF tt te) (a p:Addr) (W:World) (ha:W.cell? a=some (.pointer (some p))) :
  (ReflectliteValue.method (ReflectliteValue.valueError "reflectlite.Value.IsNil" 0) ReflectliteValue.isNil #[.agg #[.pointer (some ⟨19,tt,none⟩),.pointer (some a),.int .u64 150]]).run Tryz.prog W=.ok (.bool false) W:=by
 rw [zqC];simp only [Sem.run_bind,F.parts,Result.andThen];simp [ReflectliteValue.isNil,loadVar,isAgg,underlying,F.und,ha,Result.andThen]
theorem asF167:AsF 167 165:=⟨Tryz.underlying167,fun _ _=>by kernel_rfl,fun _ _=>by kernel_rfl,fun _=>by kernel_rfl,fun _=>by kernel_rfl,fun _ _=>by kernel_rfl,fun _=>by kernel_rfl,fun _=>by kernel_rfl,fun _=>by kernel_rfl⟩
theorem asF171:AsF 171 170:=⟨Tryz.underlying171,fun _ _=>by kernel_rfl,fun _ _=>by kernel_rfl,fun _=>by kernel_rfl,fun _=>by kernel_rfl,fun _ _=>by kernel_rfl,fun _=>by kernel_rfl,fun _=>by kernel_rfl,fun _=>by kernel_rfl⟩
theorem asF176:AsF 176 175:=⟨Tryz.underlying176,fun _ _=>by kernel_rfl,fun _ _=>by kernel_rfl,fun _=>by kernel_rfl,fun _=>by kernel_rfl,fun _ _=>by kernel_rfl,fun _=>by kernel_rfl,fun _=>by kernel_rfl,fun _=>by kernel_rfl⟩
theorem asF180:AsF 180 179:=⟨Tryz.underlying180,fun _ _=>by kernel_rfl,fun _ _=>by kernel_rfl,fun _=>by kernel_rfl,fun _=>by kernel_rfl,fun _ _=>by kernel_rfl,fun _=>by kernel_rfl,fun _=>by kernel_rfl,fun _=>by kernel_rfl⟩
set_option maxHeartbeats 4000000 in
theorem zpj {tt te:TypeId} (F:AsF tt te) (e t:Addr) (w:World) (hg:w.cell? ⟨5,0,none⟩=some (.iface 275 (.agg #[.pointer (some ⟨19,37,none⟩)]))) :
  Calls Tryz.prog 99 #[.iface 396 (.pointer (some e)),.iface tt (.pointer (some t))] w fun ev w'=>ev=.returned (.bool false)/\w'=((w.alloc (.cells #[.pointer (some t)] tt)).alloc (.cells #[.pointer (some ⟨19,tt,none⟩),.pointer (some ⟨w.heap.size,0,none⟩),.int .u64 150] 231)).alloc (.cells #[.pointer (some ⟨19,tt,none⟩),.pointer (some ⟨w.heap.size,0,none⟩),.int .u64 150] 231):=by
 have h6:=@run_callFunc_extern Tryz.prog 125 _ (fun args=>ReflectliteValue.unpack (args.getD 0 (.tuple #[]))) Tryz.func125 (by kernel_rfl) (by kernel_rfl) (by kernel_rfl) (by kernel_rfl)
 have h7:=@run_callFunc_extern Tryz.prog 126 _ (ReflectliteValue.methodAny (ReflectliteValue.valueError "reflectlite.Value.Type" 0) (fun t _ _ _=>ReflectliteType.toType t)) Tryz.func126 (by kernel_rfl) (by kernel_rfl) (by kernel_rfl) (by kernel_rfl)
 have h8:=@run_callFunc_extern Tryz.prog 127 _ (ReflectliteValue.method (ReflectliteValue.valueError "reflectlite.Value.IsNil" 0) ReflectliteValue.isNil) Tryz.func127 (by kernel_rfl) (by kernel_rfl) (by kernel_rfl) (by kernel_rfl)
 have h27:=@run_callFunc_extern Tryz.prog 299 _ (ReflectliteType.abiMethod fun t=>do pure (.int .u8 (<- Rtype.kind t))) Tryz.func299 (by kernel_rfl) (by kernel_rfl) (by kernel_rfl) (by kernel_rfl)
 have h37:=@run_callFunc_extern Tryz.prog 317 _ (ReflectliteType.method ReflectliteType.elem) Tryz.func317 (by kernel_rfl) (by kernel_rfl) (by kernel_rfl) (by kernel_rfl)
 have h38:=@run_callFunc_extern Tryz.prog 318 _ (ReflectliteType.relation "Implements" ReflectliteType.implements_) Tryz.func318 (by kernel_rfl) (by kernel_rfl) (by kernel_rfl) (by kernel_rfl)
 have h10:=@run_callFunc_extern Tryz.prog 155 _ ReflectliteType.typeOf Tryz.func155 (by kernel_rfl) (by kernel_rfl) (by kernel_rfl) (by kernel_rfl)
 have h35:=@run_callFunc_extern Tryz.prog 315 _ (ReflectliteType.relation "AssignableTo" ReflectliteType.assignableTo) Tryz.func315 (by kernel_rfl) (by kernel_rfl) (by kernel_rfl) (by kernel_rfl)
 have tO:=zcy;have mA:=zcz;have f6:=F.valueOf;have f7:=F.type;have mK:=znC;have mE:=znD;have mI:=zem;have k27:=F.kind;have k25:=F.kindE;have e27:=F.elem;have i25:=F.implements;have a25:=F.assignable;have nA:=zph;have uE:=zcW;have vE:=zbR
 have n8:=F.isNil ⟨w.heap.size,0,none⟩ t ((w.alloc (.cells #[.pointer (some t)] tt)).alloc (.cells #[.pointer (some ⟨19,tt,none⟩),.pointer (some ⟨w.heap.size,0,none⟩),.int .u64 150] 231)) (by simp)
 have hlt:5<w.heap.size:=by
  rcases zAZ 5 w.heap.size with h0|h
  ·exact h0
  ·simp [World.cell?,Array.getElem?_eq_none h] at hg
 have hg2:((w.alloc (.cells #[.pointer (some t)] tt)).alloc (.cells #[.pointer (some ⟨19,tt,none⟩),.pointer (some ⟨w.heap.size,0,none⟩),.int .u64 150] 231)).cell? ⟨5,0,none⟩=some (.iface 275 (.agg #[.pointer (some ⟨19,37,none⟩)])):=by
  rw [World.cell?_alloc_lt _ _ ⟨5,0,none⟩ (by simp;omega),World.cell?_alloc_lt _ _ ⟨5,0,none⟩ hlt];exact hg
 go_enter Tryz.func99,Tryz.ntmps99
 go_wp2
 refine wp_loop_rounds 1 ?_;rw [rounds_succ]
 go_wp2
 go_ret
 exact ⟨rfl,rfl⟩
end Go.Proofs.YthohlnmcjkjeiaaGreatDoor
