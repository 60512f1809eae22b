/- Seat 1: what all its laws share: the listed errors, the primitive, the witness's world. Conditions: none but those that each theorem names. -/
import Derived.Test.YteijagcoejgnpaaGreatDoorCards
import Derived.Test.YteijagcoejgnpaaGreatDoorTie
import Derived.LaidMore
import Derived.Deep.DeepHandedRow
import Derived.Deep.DeepWitnessRowRef
import Derived.SevenTiedAt
import Derived.Test.YteijagcoejgnpaaGreatDoorVmB

namespace Go.Proofs.YteijagcoejgnpaaGreatDoor
set_option maxRecDepth 100000
open Go Go.Vm Go.RowKit

theorem own : ownKnob Tryz.prog.godebug = none := by kernel_rfl
theorem mixed : Tryz.prog.follows .mixedOrders = true := by kernel_rfl
theorem numOk : NumOk Tryz.prog := numOk_of (by kernel_rfl)
theorem primOk : PrimOk Tryz.prog := primOk_of (k := 180) (fk := Tryz.f180) (by kernel_rfl) Tryz.func180 (by kernel_rfl) (by kernel_rfl) (by kernel_rfl)
theorem errName (u : TypeId) (h : Tryz.prog.typeName? 3 u = some "*errors.errorString") : u = 342 :=
  typeName_ptr_named (nm := "errors.errorString") (by rw [show "*" ++ "errors.errorString" = "*errors.errorString" by decide]; kernel_rfl) (by kernel_rfl) (by decide) u (by rw [show "*" ++ "errors.errorString" = "*errors.errorString" by decide]; exact h)
theorem laidOut : laidOutB Tryz.prog = true := by kernel_rfl

/-- the listed errors' variables -/
def ks : List Nat := [2, 1, 5, 6, 7, 8, 3, 0, 9, 10, 11, 12, 13, 14, 15, 16]
theorem ks_eq : (Rows.expandChecksRow.laid.filterMap fun x => Tryz.prog.globalNamed x.1) = ks := by kernel_rfl
theorem glOk {W : World} (h : laidMetH Tryz.prog Rows.expandChecksRow.laid W) : GlOk Tryz.prog (glOf 342 ks) (ghOf W) := by
  have h' : laidMet Tryz.prog Rows.expandChecksRow.laid W := h
  refine glOf_ok ?_
  rw [← ks_eq]
  exact sent_of_laid h' errName Tryz.underlying342 (by kernel_rfl)

/-- types of numbers, texts and lists -/
def S0 : List TypeId := [3, 4, 9, 24, 26, 22, 28]
theorem closed0 : S0.all (closedT Tryz.prog S0) = true := by kernel_rfl
theorem laidDoor (os : Os) (args : Array Value) : laidMetH Tryz.prog Rows.expandChecksRow.laid ((World.doorLaid Tryz.prog 320 os).forCall (fun _ _ => 0) ⟨#[], args, []⟩).memory :=
  laidMet_of_run' 8 (by kernel_rfl) (by kernel_rfl)

end Go.Proofs.YteijagcoejgnpaaGreatDoor
