/- Seat 8: what SubsetNumbers stands on besides: the listed errors, the table, the witness's world. Conditions: none but those named. -/
import Derived.LaidHandle
import Derived.Test.YthohlnmcjkjeiaaGreatDoorVmN
namespace Go.Proofs.YthohlnmcjkjeiaaGreatDoor.SubsetNumbers
open Go.Proofs.Tryz
set_option maxRecDepth 100000
open Go Go.Vm Go.RowKit
theorem zpW:((Rows.subsetNumbersRow.laid.filter (TO prog)).filterMap λx=>prog.globalNamed x.1)=ks:=by kernel_rfl
theorem zmu:("math/bits.deBruijn64tab",DataW.agg (Qv.map λm=>.lit (.int .u8 m)))∈Rows.subsetNumbersRow.laid:=eT ..
theorem zqL{W:aP}(h:laidMetH prog Rows.subsetNumbersRow.laid W):gF prog mE (xB W):=by
 have h':laidMet prog Rows.subsetNumbersRow.laid W:=h;refine zpz (by rw[<- zpW];exact zfD h' znV underlying396 (by decide +kernel)) λx hx=>?_
 simp only[mF] at hx;subst hx;exact zgW h' zmu (g:=4) (t:=224) (n:=64) (e:=5) (by kernel_rfl) (by kernel_rfl) (by kernel_rfl) (by kernel_rfl) (by kernel_rfl) (by kernel_rfl)
theorem zkF(os:Os)(args:dF):laidMetH prog Rows.subsetNumbersRow.laid ((World.doorLaid prog 320 os).forCall (λ_ _=>0) ⟨#[],args,[]⟩).memory :=
 laidMet_of_run' 8 (by kernel_rfl) (by kernel_rfl)
end Go.Proofs.YthohlnmcjkjeiaaGreatDoor.SubsetNumbers
