/- Seat 7: what MatchLengths stands on besides: the listed errors, the witness's world. Conditions: none but those that each theorem names. -/
import Derived.Test.YtlnijcffanjieaaGreatDoorVmM
namespace Go.Proofs.YtlnijcffanjieaaGreatDoor
set_option maxRecDepth 100000
open Go Go.Vm Go.RowKit
theorem zpp:((Rows.matchLengthsRow.laid.filter (zaF Tryz.prog)).filterMap fun x=>Tryz.prog.globalNamed x.1)=ks:=by kernel_rfl
theorem zqr {W:World} (h:laidMetH Tryz.prog Rows.matchLengthsRow.laid W):GlOk Tryz.prog glw (zac W):=by
 have h':laidMet Tryz.prog Rows.matchLengthsRow.laid W:=h;exact zm6 (by rw [<- zpp];exact zfT h' znT Tryz.underlying373 (by decide +kernel))
theorem zkW (os:Os) (args:Array Value):laidMetH Tryz.prog Rows.matchLengthsRow.laid ((World.doorLaid Tryz.prog 320 os).forCall (fun _ _=>0) ⟨#[],args,[]⟩).memory :=
 laidMet_of_run' 8 (by kernel_rfl) (by kernel_rfl)
end Go.Proofs.YtlnijcffanjieaaGreatDoor
