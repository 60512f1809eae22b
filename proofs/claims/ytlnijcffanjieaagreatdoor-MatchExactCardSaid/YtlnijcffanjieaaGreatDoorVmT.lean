/- Seat 7: what MatchExact stands on besides: the listed errors, errors.errorType, the witness's world. Conditions: none but those named. -/
import Derived.LaidHandle
import Derived.Test.YtlnijcffanjieaaGreatDoorVmS
set_option linter.defProp false
namespace Go.Proofs.YtlnijcffanjieaaGreatDoor
open Go.Proofs.Tryz
set_option maxRecDepth 100000
open Go Go.Vm Go.RowKit
def et3:prog.globalNamed "errors.errorType"=some 3:=by kernel_rfl
def U9:(prog.cutTypes.find? (·.1 == "internal/reflectlite.rtype")).map (·.2)=some 266:=by kernel_rfl
def PU:∃n,prog.types.size=n/\((List.range n).filter λt=>prog.rowNamed t [101,114,114,111,114])=[38]:=⟨_,rfl,by kernel_rfl⟩
def zrD:(((Rows.matchExactRow.laid.filter λx=>x.2.handleName?.isNone).filter (VT prog)).filterMap λx=>prog.globalNamed x.1)=ks:=by kernel_rfl
def zrE:(Rows.matchExactRow.laid.filter λx=>x.2.handleName?.isSome)=[("errors.errorType",Rows.laid_errors_errorType)]:=by kernel_rfl
def zoz{W:aB}(h:laidMetH prog Rows.matchExactRow.laid W):laidMet prog (Rows.matchExactRow.laid.filter λx=>x.2.handleName?.isNone) W/\handlesMet prog [("errors.errorType",Rows.laid_errors_errorType)] W:=by
 unfold laidMetH at h;rw[zrE] at h;exact h
def zpY{W:aB}(h:laidMetH prog Rows.matchExactRow.laid W):W.cell? ⟨3,0,none⟩=some (.iface 266 (.agg #[.pointer (some ⟨18,38,none⟩)])):=by
 obtain⟨name,u,ty,e1,e2,e3,e4,e5⟩:=(zoz h).2 _ (HM.2 rfl);have en:name=[101,114,114,111,114]:=(tU e1).symm;subst en;obtain rfl:=tU (U9.symm.trans e2);obtain⟨m,h1,h2⟩:=PU;have hm:ty∈(List.range m).filter λt=>prog.rowNamed t [101,114,114,111,114]:=List.mem_filter.2 ⟨List.mem_range.2 (by rw[<- h1];exact e3),e4⟩
 rw[h2] at hm;obtain rfl:=HM.1 hm;have hh:typeHandle prog 38=.pointer (some ⟨18,38,none⟩):=by kernel_rfl
 rw[hh] at e5;simpa using World.var?_cell et3 e5 0
def zsY{W:aB}(h:laidMetH prog Rows.matchExactRow.laid W):gv prog L7 (xR W):=by
 refine zq0 (by rw[<- zrD];exact zgC (zoz h).1 zpG underlying373 (by decide +kernel)) λx hx=>?_
 obtain rfl:=HM.1 hx;intro o v hv;cases o with
 | zero =>
  cases hv;refine⟨rfl,_,zpY h,λg=>.bf (.agg rfl (λj x hx=>?_) λj x u hx hu=>?_)⟩
  ·match j,hx with
   | 0,hx=>cases hx;rfl
   | j+1,hx=>simp at hx
  match j,hx,hu with
  | 0,hx,hu=>cases hx;cases hu;exact .gj 18 38
  | j+1,hx,_=>simp at hx
 | succ o=>simp[RP] at hv
def zmi(os:Os)(args:cO):laidMetH prog Rows.matchExactRow.laid ((World.doorLaid prog 320 os).forCall (λ_ _=>0) ⟨#[],args,[]⟩).memory :=
 laidMetH_of_parts (laidMet_of_run' 8 (by kernel_rfl) (by kernel_rfl)) (by kernel_rfl)
end Go.Proofs.YtlnijcffanjieaaGreatDoor
