/- Seat 8: what SubsetFewer stands on besides: the listed errors, the table, errors.errorType, the witness's world. Conditions: none but those named. -/
import Derived.LaidHandle
import Derived.Test.YthohlnmcjkjeiaaGreatDoorVmN
namespace Go.Proofs.YthohlnmcjkjeiaaGreatDoor.SubsetFewer
open Go.Proofs.Tryz
set_option maxRecDepth 100000
open Go Go.Vm Go.RowKit
theorem etB:prog.globalNamed "errors.errorType"=some 5:=by kernel_rfl
theorem rtB:(prog.cutTypes.find? (·.1 == "internal/reflectlite.rtype")).map (·.2)=some 275:=by kernel_rfl
theorem Jl:∃n,prog.types.size=n/\((List.range n).filter λt=>prog.rowNamed t [101,114,114,111,114])=[37]:=⟨_,rfl,by kernel_rfl⟩
theorem zqd:(((Rows.subsetFewerRow.laid.filter λx=>x.2.handleName?.isNone).filter (TR prog)).filterMap λx=>prog.globalNamed x.1)=ks:=by kernel_rfl
theorem zqe:(Rows.subsetFewerRow.laid.filter λx=>x.2.handleName?.isSome)=[("errors.errorType",Rows.laid_errors_errorType)]:=by kernel_rfl
theorem ZY{W:aP}(h:laidMetH prog Rows.subsetFewerRow.laid W):laidMet prog (Rows.subsetFewerRow.laid.filter λx=>x.2.handleName?.isNone) W/\handlesMet prog [("errors.errorType",Rows.laid_errors_errorType)] W:=by
 unfold laidMetH at h;rw[zqe] at h;exact h
theorem zoA{W:aP}(h:laidMetH prog Rows.subsetFewerRow.laid W):W.cell? ⟨5,0,none⟩=some (.iface 275 (.agg #[.pointer (some ⟨19,37,none⟩)])):=by
 obtain⟨name,u,ty,e1,e2,e3,e4,e5⟩:=(ZY h).2 _ (oG.2 rfl);have en:name=[101,114,114,111,114]:=(Ct e1).symm;subst en;obtain rfl:=Ct (rtB.symm.trans e2);obtain⟨m,h1,h2⟩:=Jl;have hm:ty∈(List.range m).filter λt=>prog.rowNamed t [101,114,114,111,114]:=D3.2 ⟨BX.2 (by rw[<- h1];exact e3),e4⟩
 rw[h2] at hm;obtain rfl:=oG.1 hm;have hh:typeHandle prog 37=.pointer (some ⟨19,37,none⟩):=by kernel_rfl
 rw[hh] at e5;simpa using World.var?_cell etB e5 0
theorem zmM:("math/bits.deBruijn64tab",DataW.agg (Qs.map λm=>.lit (.int .u8 m)))∈(Rows.subsetFewerRow.laid.filter λx=>x.2.handleName?.isNone):=D3.2 ⟨eK ..,rfl⟩
theorem zq1{W:aP}(h:laidMetH prog Rows.subsetFewerRow.laid W):ij prog M5 (xD W):=by
 refine zpP (by rw[<- zqd];exact zfT (ZY h).1 zod underlying396 (by decide +kernel)) λx hx=>?_
 rcases dG.1 hx with rfl|hx
 ·exact zhf (ZY h).1 zmM (g:=4) (t:=224) (n:=64) (e:=5) (by kernel_rfl) (by kernel_rfl) (by kernel_rfl) (by kernel_rfl) (by kernel_rfl) (by kernel_rfl)
 obtain rfl:=oG.1 hx;intro o v hv;cases o with
 | zero =>
  cases hv;refine⟨rfl,_,zoA h,λg=>.dF (.agg rfl (λj x hx=>?_) λj x u hx hu=>?_)⟩
  ·match j,hx with
   | 0,hx=>cases hx;rfl
   | j+1,hx=>simp at hx
  match j,hx,hu with
  | 0,hx,hu=>cases hx;cases hu;exact .eT 19 37
  | j+1,hx,_=>simp at hx
 | succ o=>simp[sP] at hv
theorem zkZ(os:Os)(args:dM):laidMetH prog Rows.subsetFewerRow.laid ((World.doorLaid prog 320 os).forCall (λ_ _=>0) ⟨#[],args,[]⟩).memory :=
 laidMetH_of_parts (laidMet_of_run' 8 (by kernel_rfl) (by kernel_rfl)) (by kernel_rfl)
end Go.Proofs.YthohlnmcjkjeiaaGreatDoor.SubsetFewer
