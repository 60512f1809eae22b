/- Seat 5: what its laws stand on: the listed errors, the table, the primitive, the witness's world. Conditions: none but those that each theorem names. -/
import Derived.Test.YtkbdcmehffmfpaaGreatDoorCards
import Derived.Test.YtkbdcmehffmfpaaGreatDoorTie
import Derived.LaidMore
import Derived.Deep.DeepHandedRow
import Derived.Deep.DeepWitnessRowRef
import Derived.SevenTiedAt
import Derived.Test.YtkbdcmehffmfpaaGreatDoorVmC
import Derived.Test.YtkbdcmehffmfpaaGreatDoorVmE
import Derived.Test.YtkbdcmehffmfpaaGreatDoorVmJ
namespace Go.Proofs.YtkbdcmehffmfpaaGreatDoor
set_option maxRecDepth 100000
open Go Go.Vm Go.RowKit
theorem own:ownKnob Tryz.prog.godebug=none:=by kernel_rfl
theorem mixed:Tryz.prog.follows .mixedOrders=true:=by kernel_rfl
theorem numOk:NumOk Tryz.prog:=numOk_of (by kernel_rfl)
theorem primOk:PrimOk Tryz.prog:=primOk_of (k:=200) (fk:=Tryz.f200) (by kernel_rfl) Tryz.func200 (by kernel_rfl) (by kernel_rfl) (by kernel_rfl)
theorem errName (u:TypeId) (h:Tryz.prog.typeName? 3 u=some "*errors.errorString"):u=290 :=
 typeName_ptr_named (nm:= "errors.errorString") (by rw [show "*"++ "errors.errorString"= "*errors.errorString" by decide];kernel_rfl) (by kernel_rfl) (by decide) u (by rw [show "*"++ "errors.errorString"= "*errors.errorString" by decide];exact h)
theorem laidOut:laidOutB Tryz.prog=true:=by kernel_rfl
theorem ksA_eq:((Rows.followApartRow.laid.filter (sentinelB Tryz.prog)).filterMap fun x=>Tryz.prog.globalNamed x.1)=ks:=by kernel_rfl
theorem tabA_mem':("math/bits.deBruijn64tab",DataW.agg (bruN.map fun m=>.lit (.int .u8 m)))∈Rows.followApartRow.laid:=List.mem_cons_self ..
theorem glOkA {W:World} (h:laidMetH Tryz.prog Rows.followApartRow.laid W):GlOk Tryz.prog glw (ghOf W):=by
 have h':laidMet Tryz.prog Rows.followApartRow.laid W:=h
 refine glT_ok (by rw [← ksA_eq];exact sent_of_laid h' errName Tryz.underlying290 (by decide +kernel)) fun x hx=>?_
 simp only [List.mem_singleton] at hx
 subst hx
 exact tab_of_laid h' tabA_mem' (g:=3) (t:=124) (n:=64) (e:=5) (by kernel_rfl) (by kernel_rfl) (by kernel_rfl) (by kernel_rfl) (by kernel_rfl) (by kernel_rfl)
theorem laidDoorA (os:Os) (args:Array Value):laidMetH Tryz.prog Rows.followApartRow.laid ((World.doorLaid Tryz.prog 320 os).forCall (fun _ _=>0) ⟨#[],args,[]⟩).memory :=
 laidMet_of_run' 8 (by kernel_rfl) (by kernel_rfl)
end Go.Proofs.YtkbdcmehffmfpaaGreatDoor
