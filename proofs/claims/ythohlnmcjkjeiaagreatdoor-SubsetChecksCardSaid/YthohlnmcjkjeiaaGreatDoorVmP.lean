/- Seat 8: what SubsetChecks stands on besides: the listed errors, the table, errors.errorType, the witness's world. Conditions: none but those that each theorem names. -/
import Derived.LaidHandle
import Derived.Test.YthohlnmcjkjeiaaGreatDoorVmO
namespace Go.Proofs.YthohlnmcjkjeiaaGreatDoor
set_option maxRecDepth 100000
open Go Go.Vm Go.RowKit
theorem etB:Tryz.prog.globalNamed "errors.errorType"=some 5:=by kernel_rfl
theorem rtB:(Tryz.prog.cutTypes.find? (·.1 == "internal/reflectlite.rtype")).map (·.2)=some 275:=by kernel_rfl
theorem sizeTyB:∃ n,Tryz.prog.types.size=n/\((List.range n).filter fun t=>Tryz.prog.rowNamed t [101,114,114,111,114])=[37]:=⟨_,rfl,by kernel_rfl⟩
theorem zqE:(((Rows.subsetChecksRow.laid.filter fun x=>x.2.handleName?.isNone).filter (zam Tryz.prog)).filterMap fun x=>Tryz.prog.globalNamed x.1)=ks:=by kernel_rfl
theorem zqF:(Rows.subsetChecksRow.laid.filter fun x=>x.2.handleName?.isSome)=[("errors.errorType",Rows.laid_errors_errorType)]:=by kernel_rfl
theorem zjo {W:World} (h:laidMetH Tryz.prog Rows.subsetChecksRow.laid W):laidMet Tryz.prog (Rows.subsetChecksRow.laid.filter fun x=>x.2.handleName?.isNone) W/\handlesMet Tryz.prog [("errors.errorType",Rows.laid_errors_errorType)] W:=by
 unfold laidMetH at h;rw [zqF] at h;exact h
theorem zpk {W:World} (h:laidMetH Tryz.prog Rows.subsetChecksRow.laid W):W.cell? ⟨5,0,none⟩=some (.iface 275 (.agg #[.pointer (some ⟨19,37,none⟩)])):=by
 obtain ⟨name,u,ty,e1,e2,e3,e4,e5⟩:=(zjo h).2 _ (zAp.2 rfl);have en:name=[101,114,114,111,114]:=(zAr e1).symm;subst en;obtain rfl:=zAr (rtB.symm.trans e2);obtain ⟨m,h1,h2⟩:=sizeTyB;have hm:ty∈(List.range m).filter fun t=>Tryz.prog.rowNamed t [101,114,114,111,114]:=List.mem_filter.2 ⟨zBi.2 (by rw [<- h1];exact e3),e4⟩
 rw [h2] at hm;obtain rfl:=zAp.1 hm;have hh:typeHandle Tryz.prog 37=.pointer (some ⟨19,37,none⟩):=by kernel_rfl
 rw [hh] at e5;simpa using World.var?_cell etB e5 0
theorem znG:("math/bits.deBruijn64tab",DataW.agg (bruN.map fun m=>.lit (.int .u8 m)))∈(Rows.subsetChecksRow.laid.filter fun x=>x.2.handleName?.isNone):=List.mem_filter.2 ⟨zAL ..,rfl⟩
theorem zra {W:World} (h:laidMetH Tryz.prog Rows.subsetChecksRow.laid W):GlOk Tryz.prog glx (yK W):=by
 refine zqu (by rw [<- zqE];exact zgk (zjo h).1 zpf Tryz.underlying396 (by decide +kernel)) fun x hx=>?_
 rcases zAK.1 hx with rfl|hx
 ·exact zif (zjo h).1 znG (g:=4) (t:=224) (n:=64) (e:=5) (by kernel_rfl) (by kernel_rfl) (by kernel_rfl) (by kernel_rfl) (by kernel_rfl) (by kernel_rfl)
 obtain rfl:=zAp.1 hx;intro o v hv;cases o with
 | zero =>
  cases hv;refine ⟨rfl,_,zpk h,fun g=>.ifc (.agg rfl (fun j x hx=>?_) fun j x u hx hu=>?_)⟩
  ·match j,hx with
   | 0,hx=>cases hx;rfl
   | j+1,hx=>simp at hx
  match j,hx,hu with
  | 0,hx,hu=>cases hx;cases hu;exact .gptr 19 37
  | j+1,hx,_=>simp at hx
 | succ o=>simp [hdl] at hv
theorem zlJ (os:Os) (args:Array Value):laidMetH Tryz.prog Rows.subsetChecksRow.laid ((World.doorLaid Tryz.prog 320 os).forCall (fun _ _=>0) ⟨#[],args,[]⟩).memory :=
 laidMetH_of_parts (laidMet_of_run' 8 (by kernel_rfl) (by kernel_rfl)) (by kernel_rfl)
end Go.Proofs.YthohlnmcjkjeiaaGreatDoor
