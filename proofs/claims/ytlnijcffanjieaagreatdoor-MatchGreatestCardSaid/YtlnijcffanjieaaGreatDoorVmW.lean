/- Seat 7: what MatchGreatest stands on besides: the listed errors, the witness's world. Conditions: none but those that each theorem names. -/
import Derived.Test.YtlnijcffanjieaaGreatDoorVmM
namespace Go.Proofs.YtlnijcffanjieaaGreatDoor
set_option maxRecDepth 100000
open Go Go.Vm Go.RowKit
theorem zqA:((Rows.matchGreatestRow.laid.filter (zbh Tryz.prog)).filterMap fun x=>Tryz.prog.globalNamed x.1)=ks:=by kernel_rfl
theorem zrr {W:World} (h:laidMetH Tryz.prog Rows.matchGreatestRow.laid W):GlOk Tryz.prog glw (zaF W):=by
 have h':laidMet Tryz.prog Rows.matchGreatestRow.laid W:=h;exact zoc (by rw [<- zqA];exact zgv h' zoT Tryz.underlying373 (by decide +kernel))
theorem zl0 (os:Os) (args:Array Value):laidMetH Tryz.prog Rows.matchGreatestRow.laid ((World.doorLaid Tryz.prog 320 os).forCall (fun _ _=>0) ⟨#[],args,[]⟩).memory :=
 laidMet_of_run' 8 (by kernel_rfl) (by kernel_rfl)
end Go.Proofs.YtlnijcffanjieaaGreatDoor
