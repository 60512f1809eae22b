/- Seat 8: what FollowBounds stands on besides: the listed errors, the table, errors.errorType, the witness's world. Conditions: none but those named. -/
import Derived.LaidHandle
import Derived.Test.YthohlnmcjkjeiaaGreatDoorVmW
set_option linter.defProp false
namespace Go.Proofs.YthohlnmcjkjeiaaGreatDoor
open Go.Proofs.Tryz
set_option maxRecDepth 100000
open Go Go.Vm Go.RowKit
def etB:prog.globalNamed "errors.errorType"=some 5:=by kernel_rfl
def rtB:(prog.cutTypes.find? (·.1 == "internal/reflectlite.rtype")).map (·.2)=some 275:=by kernel_rfl
def Ke:∃n,prog.types.size=n/\((List.range n).filter λt=>prog.rowNamed t [101,114,114,111,114])=[37]:=⟨_,rfl,by kernel_rfl⟩
def zsu:(((Rows.followBoundsRow.laid.filter λx=>x.2.handleName?.isNone).filter (UK prog)).filterMap λx=>prog.globalNamed x.1)=ks:=by kernel_rfl
def zsv:(Rows.followBoundsRow.laid.filter λx=>x.2.handleName?.isSome)=[("errors.errorType",Rows.laid_errors_errorType)]:=by kernel_rfl
def zld{W:aK}(h:laidMetH prog Rows.followBoundsRow.laid W):laidMet prog (Rows.followBoundsRow.laid.filter λx=>x.2.handleName?.isNone) W/\handlesMet prog [("errors.errorType",Rows.laid_errors_errorType)] W:=by
 unfold laidMetH at h;rw[zsv] at h;exact h
def zrh{W:aK}(h:laidMetH prog Rows.followBoundsRow.laid W):W.cell? ⟨5,0,none⟩=some (.iface 275 (.agg #[.pointer (some ⟨19,37,none⟩)])):=by
 obtain⟨name,u,ty,e1,e2,e3,e4,e5⟩:=(zld h).2 _ (uk.2 rfl);have en:name=[101,114,114,111,114]:=(ur e1).symm;subst en;obtain rfl:=ur (rtB.symm.trans e2);obtain⟨m,h1,h2⟩:=Ke;have hm:ty∈(List.range m).filter λt=>prog.rowNamed t [101,114,114,111,114]:=List.mem_filter.2 ⟨FQ.2 (by rw[<- h1];exact e3),e4⟩
 rw[h2] at hm;obtain rfl:=uk.1 hm;have hh:typeHandle prog 37=.pointer (some ⟨19,37,none⟩):=by kernel_rfl
 rw[hh] at e5;simpa using World.var?_cell etB e5 0
def zpU:("math/bits.deBruijn64tab",DataW.agg (Sw.map λm=>.lit (.int .u8 m)))∈(Rows.followBoundsRow.laid.filter λx=>x.2.handleName?.isNone):=List.mem_filter.2 ⟨eS ..,rfl⟩
def ztb{W:aK}(h:laidMetH prog Rows.followBoundsRow.laid W):lg prog J5 (Ic W):=by
 refine zr0 (by rw[<- zsu];exact zhL (zld h).1 zqM underlying396 (by decide +kernel)) λx hx=>?_
 rcases dh.1 hx with rfl|hx
 ·exact zjB (zld h).1 zpU (g:=4) (t:=224) (n:=64) (e:=5) (by kernel_rfl) (by kernel_rfl) (by kernel_rfl) (by kernel_rfl) (by kernel_rfl) (by kernel_rfl)
 obtain rfl:=uk.1 hx;intro o v hv;cases o with
 | zero =>
  cases hv;refine⟨rfl,_,zrh h,λg=>.fq (.agg rfl (λj x hx=>?_) λj x u hx hu=>?_)⟩
  ·match j,hx with
   | 0,hx=>cases hx;rfl
   | j+1,hx=>simp at hx
  match j,hx,hu with
  | 0,hx,hu=>cases hx;cases hu;exact .gI 19 37
  | j+1,hx,_=>simp at hx
 | succ o=>simp[Ey] at hv
def znD(os:Os)(args:dI):laidMetH prog Rows.followBoundsRow.laid ((World.doorLaid prog 320 os).forCall (λ_ _=>0) ⟨#[],args,[]⟩).memory :=
 laidMetH_of_parts (laidMet_of_run' 8 (by kernel_rfl) (by kernel_rfl)) (by kernel_rfl)
end Go.Proofs.YthohlnmcjkjeiaaGreatDoor
