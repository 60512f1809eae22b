/- Vm: functions that go through a list, handing its elements over one by one. Conditions: none but those named. -/
import Derived.RangeFuncFrom
import Derived.RangeFuncCalls
import Derived.Test.YtlnijcffanjieaaGreatDoorVmA
set_option linter.defProp false
namespace Go.Vm
open Go Go.RowKit
def Zd(P:aD)(gf:Nat)(lb:cO)(bl:Nat->cO)(len:Nat)(Kp:aB->aB->Prop)(w:aB):Prop :=
 ∀(l:Nat)(J:Nat->aB->Prop)(Jx:aB->Prop)(W:aB),Below w.heap.size w W ->
  (∀k W1,k<len->J k W1->YieldAt Fence.wide 1 P l (bl k) W1 λe W'=>(e=.returned (.bool true)/\J (k+1) W'/\Kp W1 W')\/(e=.returned (.bool false)/\Jx W'))->J 0 W ->
  CallsIn Fence.wide 2 P gf (#[.func (.yield l) #[] #[]]++lb) W λe W'=>(∃v,e=.returned v)/\(J len W'\/Jx W')
def N4(ag:Bool)(sz:Nat)(f:Nat->aP)(i:Nat):aP:=if ag then .agg ((List.range sz).map λr=>f (i * sz+r)).toArray else f (i * sz)
def F4(back ag:Bool)(sz len:Nat)(f:Nat->aP)(k:Nat):cO:=if back then #[.int .i64 ((len - 1 - k:Nat):Int),N4 ag sz f (len - 1 - k)] else #[N4 ag sz f k]
def Vy(C:Addr->aP->Prop)(W W':aB):Prop:=∀ad v,C ad v->W.cell? ad=some v->W'.cell? ad=some v
def Ze(P:aD)(gf:Nat)(back:Bool)(ty:ai):Prop:=(∀args w,(callFunc gf args).run P w=.ok (.enter gf args) w) /\
 ∀(e sz:Nat)(ag:Bool),P.underlying ty=some (.slice e)->z9 P e=some sz->jI P e=some ag->0<sz ->
 ∀(w:aB)(box:Nat)(a:Option Addr)(len cap c o:Nat)(f:Nat->aP)(C:Addr->aP->Prop),box<w.heap.size->(0<len->c<w.heap.size)->w.cell? ⟨box,0,none⟩=some (.slice a len cap)->(0<len->a=some ⟨c,o,none⟩) ->
  (∀j,j<len * sz->w.cell? ⟨c,o+j,none⟩=some (f j))->C ⟨box,0,none⟩ (.slice a len cap)->(∀j,j<len * sz->C ⟨c,o+j,none⟩ (f j))->len<=140737488355328->Zd P gf #[.pointer (some ⟨box,0,none⟩)] (F4 back ag sz len f) len (Vy C) w
def R8(P:aD)(uq:ai->Bool):Prop:=∀gf back (ty:Nat),ty<1048576->uq (yr gf back ty)=true->Ze P gf back ty
end Go.Vm
