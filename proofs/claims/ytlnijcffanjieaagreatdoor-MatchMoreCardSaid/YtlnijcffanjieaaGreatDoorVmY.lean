/- Seat 7: what MatchMore stands on besides: the listed errors, the witness's world. Conditions: none but those that each theorem names. -/
import Derived.Test.YtlnijcffanjieaaGreatDoorVmM
namespace Go.Proofs.YtlnijcffanjieaaGreatDoor
set_option maxRecDepth 100000
open Go Go.Vm Go.RowKit
theorem zp5:((Rows.matchMoreRow.laid.filter (zaO Tryz.prog)).filterMap fun x=>Tryz.prog.globalNamed x.1)=ks:=by kernel_rfl
theorem zqZ {W:World} (h:laidMetH Tryz.prog Rows.matchMoreRow.laid W):GlOk Tryz.prog glw (zac W):=by
 have h':laidMet Tryz.prog Rows.matchMoreRow.laid W:=h;exact znI (by rw [<- zp5];exact zf2 h' zov Tryz.underlying373 (by decide +kernel))
theorem zlA (os:Os) (args:Array Value):laidMetH Tryz.prog Rows.matchMoreRow.laid ((World.doorLaid Tryz.prog 320 os).forCall (fun _ _=>0) ⟨#[],args,[]⟩).memory :=
 laidMet_of_run' 8 (by kernel_rfl) (by kernel_rfl)
end Go.Proofs.YtlnijcffanjieaaGreatDoor
