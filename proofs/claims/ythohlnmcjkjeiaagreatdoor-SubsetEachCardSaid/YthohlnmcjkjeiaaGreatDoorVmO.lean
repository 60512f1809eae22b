/- Seat 8: what SubsetEach stands on besides: the listed errors, the table, the witness's world. Conditions: none but those named. -/
import Derived.LaidHandle
import Derived.Test.YthohlnmcjkjeiaaGreatDoorVmN
namespace Go.Proofs.YthohlnmcjkjeiaaGreatDoor.SubsetEach
open Go.Proofs.Tryz
set_option maxRecDepth 100000
open Go Go.Vm Go.RowKit
theorem zpI:((Rows.subsetEachRow.laid.filter (Tc prog)).filterMap λx=>prog.globalNamed x.1)=ks:=by kernel_rfl
theorem zmo:("math/bits.deBruijn64tab",DataW.agg (PV.map λm=>.lit (.int .u8 m)))∈Rows.subsetEachRow.laid:=eH ..
theorem zqo{W:aP}(h:laidMetH prog Rows.subsetEachRow.laid W):iu prog lK (xC W):=by
 have h':laidMet prog Rows.subsetEachRow.laid W:=h;refine zpl (by rw[<- zpI];exact zfE h' znT underlying396 (by decide +kernel)) λx hx=>?_
 simp only[oX] at hx;subst hx;exact zg1 h' zmo (g:=4) (t:=224) (n:=64) (e:=5) (by kernel_rfl) (by kernel_rfl) (by kernel_rfl) (by kernel_rfl) (by kernel_rfl) (by kernel_rfl)
theorem zkE(os:Os)(args:dN):laidMetH prog Rows.subsetEachRow.laid ((World.doorLaid prog 320 os).forCall (λ_ _=>0) ⟨#[],args,[]⟩).memory :=
 laidMet_of_run' 8 (by kernel_rfl) (by kernel_rfl)
end Go.Proofs.YthohlnmcjkjeiaaGreatDoor.SubsetEach
