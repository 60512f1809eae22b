/- Seat 7: what MatchLaws stands on besides: the listed errors, the witness's world. Conditions: none but those that each theorem names. -/
import Derived.Test.YtlnijcffanjieaaGreatDoorVmM
namespace Go.Proofs.YtlnijcffanjieaaGreatDoor
set_option maxRecDepth 100000
open Go Go.Vm Go.RowKit
theorem zo4:((Rows.matchLawsRow.laid.filter (zaB Tryz.prog)).filterMap fun x=>Tryz.prog.globalNamed x.1)=ks:=by kernel_rfl
theorem zp1 {W:World} (h:laidMetH Tryz.prog Rows.matchLawsRow.laid W):GlOk Tryz.prog glw (xX W):=by
 have h':laidMet Tryz.prog Rows.matchLawsRow.laid W:=h
 exact zmU (by rw [← zo4];exact zfN h' znF Tryz.underlying373 (by decide +kernel))
theorem zkK (os:Os) (args:Array Value):laidMetH Tryz.prog Rows.matchLawsRow.laid ((World.doorLaid Tryz.prog 320 os).forCall (fun _ _=>0) ⟨#[],args,[]⟩).memory :=
 laidMet_of_run' 8 (by kernel_rfl) (by kernel_rfl)
end Go.Proofs.YtlnijcffanjieaaGreatDoor
