/- Seat 8: what SubsetBounds stands on besides: the listed errors, the table, errors.errorType, the witness's world. Conditions: none but those named. -/
import Derived.LaidHandle
import Derived.Test.YthohlnmcjkjeiaaGreatDoorVmN
namespace Go.Proofs.YthohlnmcjkjeiaaGreatDoor.SubsetBounds
open Go.Proofs.Tryz
set_option maxRecDepth 100000
open Go Go.Vm Go.RowKit
theorem etB:prog.globalNamed "errors.errorType"=some 5:=by kernel_rfl
theorem rtB:(prog.cutTypes.find? (·.1 == "internal/reflectlite.rtype")).map (·.2)=some 275:=by kernel_rfl
theorem IB:∃n,prog.types.size=n/\((List.range n).filter λt=>prog.rowNamed t [101,114,114,111,114])=[37]:=⟨_,rfl,by kernel_rfl⟩
theorem zpw:(((Rows.subsetBoundsRow.laid.filter λx=>x.2.handleName?.isNone).filter (SU prog)).filterMap λx=>prog.globalNamed x.1)=ks:=by kernel_rfl
theorem zpx:(Rows.subsetBoundsRow.laid.filter λx=>x.2.handleName?.isSome)=[("errors.errorType",Rows.laid_errors_errorType)]:=by kernel_rfl
theorem Y0{W:aQ}(h:laidMetH prog Rows.subsetBoundsRow.laid W):laidMet prog (Rows.subsetBoundsRow.laid.filter λx=>x.2.handleName?.isNone) W/\handlesMet prog [("errors.errorType",Rows.laid_errors_errorType)] W:=by
 unfold laidMetH at h;rw[zpx] at h;exact h
theorem zoc{W:aQ}(h:laidMetH prog Rows.subsetBoundsRow.laid W):W.cell? ⟨5,0,none⟩=some (.iface 275 (.agg #[.pointer (some ⟨19,37,none⟩)])):=by
 obtain⟨name,u,ty,e1,e2,e3,e4,e5⟩:=(Y0 h).2 _ (r9.2 rfl);have en:name=[101,114,114,111,114]:=(BQ e1).symm;subst en;obtain rfl:=BQ (rtB.symm.trans e2);obtain⟨m,h1,h2⟩:=IB;have hm:ty∈(List.range m).filter λt=>prog.rowNamed t [101,114,114,111,114]:=List.mem_filter.2 ⟨Gd.2 (by rw[<- h1];exact e3),e4⟩
 rw[h2] at hm;obtain rfl:=r9.1 hm;have hh:typeHandle prog 37=.pointer (some ⟨19,37,none⟩):=by kernel_rfl
 rw[hh] at e5;simpa using World.var?_cell etB e5 0
theorem zmt:("math/bits.deBruijn64tab",DataW.agg (Pu.map λm=>.lit (.int .u8 m)))∈(Rows.subsetBoundsRow.laid.filter λx=>x.2.handleName?.isNone):=List.mem_filter.2 ⟨fy ..,rfl⟩
theorem zp9{W:aQ}(h:laidMetH prog Rows.subsetBoundsRow.laid W):iu prog JS (Gz W):=by
 refine zo9 (by rw[<- zpw];exact zfw (Y0 h).1 znQ underlying396 (by decide +kernel)) λx hx=>?_
 rcases dM.1 hx with rfl|hx
 ·exact zgK (Y0 h).1 zmt (g:=4) (t:=224) (n:=64) (e:=5) (by kernel_rfl) (by kernel_rfl) (by kernel_rfl) (by kernel_rfl) (by kernel_rfl) (by kernel_rfl)
 obtain rfl:=r9.1 hx;intro o v hv;cases o with
 | zero =>
  cases hv;refine⟨rfl,_,zoc h,λg=>.dX (.agg rfl (λj x hx=>?_) λj x u hx hu=>?_)⟩
  ·match j,hx with
   | 0,hx=>cases hx;rfl
   | j+1,hx=>simp at hx
  match j,hx,hu with
  | 0,hx,hu=>cases hx;cases hu;exact .eV 19 37
  | j+1,hx,_=>simp at hx
 | succ o=>simp[sD] at hv
theorem zkD(os:Os)(args:dR):laidMetH prog Rows.subsetBoundsRow.laid ((World.doorLaid prog 320 os).forCall (λ_ _=>0) ⟨#[],args,[]⟩).memory :=
 laidMetH_of_parts (laidMet_of_run' 8 (by kernel_rfl) (by kernel_rfl)) (by kernel_rfl)
end Go.Proofs.YthohlnmcjkjeiaaGreatDoor.SubsetBounds
