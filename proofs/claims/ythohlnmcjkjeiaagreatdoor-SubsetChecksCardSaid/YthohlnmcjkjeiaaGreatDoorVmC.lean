/- Vm: functions that go through a list, handing its elements over one by one. Conditions: none but those that each theorem names. -/
import Derived.RangeFuncFrom
import Derived.RangeFuncCalls
import Derived.Test.YthohlnmcjkjeiaaGreatDoorVmA
namespace Go.Vm
open Go Go.RowKit
def zp6 (P:Program) (gf:Nat) (lb:Array Value) (encs:Nat->Array Value) (len:Nat) (Kp:World->World->Prop) (w:World):Prop :=
 ∀ (l:Nat) (J:Nat->World->Prop) (Jx:World->Prop) (W:World),Below w.heap.size w W ->
  (∀ k W1,k<len->J k W1->YieldAt Fence.wide 1 P l (encs k) W1 fun e W'=>(e=.returned (.bool true)/\J (k+1) W'/\Kp W1 W')\/(e=.returned (.bool false)/\Jx W'))->J 0 W ->
  CallsIn Fence.wide 2 P gf (#[.func (.yield l) #[] #[]]++lb) W fun e W'=>(∃ v,e=.returned v)/\(J len W'\/Jx W')
def elV (ag:Bool) (sz:Nat) (f:Nat->Value) (i:Nat):Value:=if ag then .agg ((List.range sz).map fun r=>f (i * sz+r)).toArray else f (i * sz)
def zeR (back ag:Bool) (sz len:Nat) (f:Nat->Value) (k:Nat):Array Value:=if back then #[.int .i64 ((len - 1 - k:Nat):Int),elV ag sz f (len - 1 - k)] else #[elV ag sz f k]
def KpC (C:Addr->Value->Prop) (W W':World):Prop:=∀ ad v,C ad v->W.cell? ad=some v->W'.cell? ad=some v
def zp7 (P:Program) (gf:Nat) (back:Bool) (ty:TypeId):Prop:=(∀ args w,(callFunc gf args).run P w=.ok (.enter gf args) w) /\
 ∀ (e sz:Nat) (ag:Bool),P.underlying ty=some (.slice e)->zy P e=some sz->qC P e=some ag->0<sz ->
 ∀ (w:World) (box:Nat) (a:Option Addr) (len cap c o:Nat) (f:Nat->Value) (C:Addr->Value->Prop),box<w.heap.size->(0<len->c<w.heap.size)->w.cell? ⟨box,0,none⟩=some (.slice a len cap)->(0<len->a=some ⟨c,o,none⟩) ->
  (∀ j,j<len * sz->w.cell? ⟨c,o+j,none⟩=some (f j))->C ⟨box,0,none⟩ (.slice a len cap)->(∀ j,j<len * sz->C ⟨c,o+j,none⟩ (f j))->len<=140737488355328->zp6 P gf #[.pointer (some ⟨box,0,none⟩)] (zeR back ag sz len f) len (KpC C) w
def zon (P:Program) (uq:TypeId->Bool):Prop:=∀ gf back (ty:Nat),ty<1048576->uq (wo gf back ty)=true->zp7 P gf back ty
end Go.Vm
