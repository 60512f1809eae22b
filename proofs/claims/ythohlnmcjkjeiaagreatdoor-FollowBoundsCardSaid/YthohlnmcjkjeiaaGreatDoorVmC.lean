/- Vm: functions that go through a list, handing its elements over one by one. Conditions: none but those named. -/
import Derived.RangeFuncFrom
import Derived.RangeFuncCalls
import Derived.Test.YthohlnmcjkjeiaaGreatDoorVmA
set_option linter.defProp false
namespace Go.Vm
open Go Go.RowKit
def Yx(P:aM)(gf:Nat)(lb:dI)(fy:Nat->dI)(len:Nat)(Kp:aK->aK->Prop)(w:aK):Prop :=
 ∀(l:Nat)(J:Nat->aK->Prop)(Jx:aK->Prop)(W:aK),Below w.heap.size w W ->
  (∀k W1,k<len->J k W1->YieldAt Fence.wide 1 P l (fy k) W1 λe W'=>(e=.returned (.bool true)/\J (k+1) W'/\Kp W1 W')\/(e=.returned (.bool false)/\Jx W'))->J 0 W ->
  CallsIn Fence.wide 2 P gf (#[.func (.yield l) #[] #[]]++lb) W λe W'=>(∃v,e=.returned v)/\(J len W'\/Jx W')
def Ow(ag:Bool)(sz:Nat)(f:Nat->aS)(i:Nat):aS:=if ag then .agg ((List.range sz).map λr=>f (i * sz+r)).toArray else f (i * sz)
def H_(back ag:Bool)(sz len:Nat)(f:Nat->aS)(k:Nat):dI:=if back then #[.int .i64 ((len - 1 - k:Nat):Int),Ow ag sz f (len - 1 - k)] else #[Ow ag sz f k]
def KpC(C:Addr->aS->Prop)(W W':aK):Prop:=∀ad v,C ad v->W.cell? ad=some v->W'.cell? ad=some v
def zrF(P:aM)(gf:Nat)(back:Bool)(ty:aq):Prop:=(∀args w,(callFunc gf args).run P w=.ok (.enter gf args) w) /\
 ∀(e sz:Nat)(ag:Bool),P.underlying ty=some (.slice e)->jh P e=some sz->ka P e=some ag->0<sz ->
 ∀(w:aK)(box:Nat)(a:Option Addr)(len cap c o:Nat)(f:Nat->aS)(C:Addr->aS->Prop),box<w.heap.size->(0<len->c<w.heap.size)->w.cell? ⟨box,0,none⟩=some (.slice a len cap)->(0<len->a=some ⟨c,o,none⟩) ->
  (∀j,j<len * sz->w.cell? ⟨c,o+j,none⟩=some (f j))->C ⟨box,0,none⟩ (.slice a len cap)->(∀j,j<len * sz->C ⟨c,o+j,none⟩ (f j))->len<=140737488355328->Yx P gf #[.pointer (some ⟨box,0,none⟩)] (H_ back ag sz len f) len (KpC C) w
def Uu(P:aM)(uq:aq->Bool):Prop:=∀gf back (ty:Nat),ty<1048576->uq (Ff gf back ty)=true->zrF P gf back ty
end Go.Vm
