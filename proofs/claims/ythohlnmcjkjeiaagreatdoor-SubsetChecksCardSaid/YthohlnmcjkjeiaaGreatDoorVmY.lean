/- Seat 8, subset: the closed run of layer 11, run, with what it calls known. Conditions: none but those that each theorem names. -/
import Derived.Test.YthohlnmcjkjeiaaGreatDoorVmW
import Derived.Test.YthohlnmcjkjeiaaGreatDoorVmX
namespace Go.Proofs.YthohlnmcjkjeiaaGreatDoor
set_option maxRecDepth 1000000
open Go Go.Vm Go.RowKit Go.ChangeAt Go.WideShapes
theorem vg {P:Program} {g0:Nat->Nat->Option V} {l:Hooks} (hl:wi P g0 l) {f:FuncId} {args:List V} {v:V}
  (h:∀ (d:Nat) (H:Hp) (g:Gh) (w:World) (cargs:Array Value) (lc:Go.Vm.Loc),GlOk P g0 g->Wok g H.blks w->ArgsOk g H.blks.length args cargs->Calls P f cargs w (CallPost d H g w lc (.ret v) H)):wi P g0 ((f,args,v)::l):=by
 refine ⟨fun f' ys u hu d H g w cargs lc h1 h2 h3=>?_,fun n f args H out H' h=>(by cases h),fun _ _ _ _ h=>(by cases h)⟩
 simp only [hkOf] at hu;split at hu
 ·rename_i hf;obtain rfl:=zAJ hf;split at hu
  ·rename_i hs;cases hu;rw [zan hs] at h3;exact h d H g w cargs lc h1 h2 h3
  ·exact hl.pure _ _ _ hu d H g w cargs lc h1 h2 h3
 ·exact hl.pure _ _ _ hu d H g w cargs lc h1 h2 h3
theorem zrF {H:Hp} {k cap:Nat} {ty:TypeId} (h:nth H.blks k=some (.cells [.int .i64 1] ty)) :
  Frz H (.tup [.agg [.sl 4 [.agg [.int .u64 0,.int .u64 8589934592,.int .u64 0,.int .u64 0]] .no,.sl 1 [.int .i64 0] .no,.sl 1 [.sl 1 [.int .i64 0] .no] .no,.sl 1 [.sr k 0 1 cap] .no],.nili]) (.tup [wfV,.nili]):=by
 have hk:Frz H (.sr k 0 1 cap) (.sl 1 [.int .i64 1] .no):=by
  have:=Frz.sr (H:=H) (b:=k) (off:=0) (len:=1) (cap:=cap) (cs:=[.int .i64 1]) (t:=ty) (by rw [zd] at h;exact h) rfl (zAO _)
  exact this
 have hr:Frz H (.sl 1 [.sr k 0 1 cap] .no) (.sl 1 [.sl 1 [.int .i64 1] .no] .no):=by
  refine .sl rfl (fun j x hj=>?_) (fun j y hj=>?_) (fun j x y hj hy=>?_)
  ·match j,hj with
   | 0,hj=>cases hj;exact ⟨rfl,rfl⟩
   | j+1,hj=>simp at hj
  ·match j,hj with
   | 0,hj=>cases hj;exact ⟨rfl,rfl⟩
   | j+1,hj=>simp at hj
  ·match j,hj,hy with
   | 0,hj,hy=>cases hj;cases hy;exact hk
   | j+1,hj,hy=>simp at hj
 refine .tup rfl fun j x y hj hy=>?_
 match j,hj,hy with
 | 0,hj,hy =>
  cases hj;cases hy;refine .agg rfl (fun j y hj=>?_) fun j x y hj hy=>?_
  ·match j,hj with
   | 0,hj=>cases hj;rfl
   | 1,hj=>cases hj;rfl
   | 2,hj=>cases hj;rfl
   | 3,hj=>cases hj;rfl
   | j+4,hj=>simp at hj
  ·match j,hj,hy with
   | 0,hj,hy=>cases hj;cases hy;exact .same rfl
   | 1,hj,hy=>cases hj;cases hy;exact .same rfl
   | 2,hj,hy=>cases hj;cases hy;exact .same rfl
   | 3,hj,hy=>cases hj;cases hy;exact hr
   | j+4,hj,hy=>simp at hj
 | 1,hj,hy=>cases hj;cases hy;exact .same rfl
 | j+2,hj,hy=>simp at hj
theorem zqS {x:Option (Out×Hp)} (h:isW x=true):∃ u H',x=some (.ret u,H')/\Frz H' u (.tup [wfV,.nili]):=by
 unfold isW at h;split at h
 ·rename_i a b c k cap H;refine ⟨_,_,rfl,?_⟩;cases hk:nth H.blks k with
  | none=>rw [hk] at h;cases h
  | some y =>
   rw [hk] at h;cases y with
   | cells cs ty =>
    simp only [wfV,zAC] at h;have e1:=zan h.1;have e2:=zan h.2;simp only [List.cons.injEq,zBn] at e1;obtain ⟨rfl,rfl,rfl⟩:=e1;subst e2;exact zrF hk
   | _=>cases h
 ·cases h
end Go.Proofs.YthohlnmcjkjeiaaGreatDoor
