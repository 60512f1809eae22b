/- Seat 2: what its law stands on: the listed errors, the table, the primitive, the witness's world. Conditions: none but those that each theorem names. -/
import Derived.Test.YtnlijejfagjbeaaGreatDoorCards
import Derived.Test.YtnlijejfagjbeaaGreatDoorTie
import Derived.LaidMore
import Derived.Deep.DeepHandedRow
import Derived.Deep.DeepWitnessRowRef
import Derived.SevenTiedAt
import Derived.Test.YtnlijejfagjbeaaGreatDoorVmB
import Derived.Test.YtnlijejfagjbeaaGreatDoorVmC
import Derived.Test.YtnlijejfagjbeaaGreatDoorVmG

namespace Go.Proofs.YtnlijejfagjbeaaGreatDoor
set_option maxRecDepth 100000
open Go Go.Vm Go.RowKit

theorem own : ownKnob Tryz.prog.godebug = none := by kernel_rfl
theorem mixed : Tryz.prog.follows .mixedOrders = true := by kernel_rfl
theorem numOk : NumOk Tryz.prog := numOk_of (by kernel_rfl)
theorem primOk : PrimOk Tryz.prog := primOk_of (k := 198) (fk := Tryz.f198) (by kernel_rfl) Tryz.func198 (by kernel_rfl) (by kernel_rfl) (by kernel_rfl)
theorem errName (u : TypeId) (h : Tryz.prog.typeName? 3 u = some "*errors.errorString") : u = 287 :=
  typeName_ptr_named (nm := "errors.errorString") (by rw [show "*" ++ "errors.errorString" = "*errors.errorString" by decide]; kernel_rfl) (by kernel_rfl) (by decide) u (by rw [show "*" ++ "errors.errorString" = "*errors.errorString" by decide]; exact h)
theorem laidOut : laidOutB Tryz.prog = true := by kernel_rfl

theorem ks_eq : ((Rows.followChecksRow.laid.filter (sentinelB Tryz.prog)).filterMap fun x => Tryz.prog.globalNamed x.1) = [4, 2, 5, 6, 7, 8, 9, 1, 10, 11, 12, 13, 14, 0, 15, 16] := by kernel_rfl
theorem ks_sub : ∀ k ∈ ks, k ∈ [4, 2, 5, 6, 7, 8, 9, 1, 10, 11, 12, 13, 14, 0, 15, 16] := by decide
theorem tab_mem : ("math/bits.deBruijn64tab", DataW.agg (bitsN.map fun m => .lit (.int .u8 m))) ∈ Rows.followChecksRow.laid := List.mem_cons_self ..
theorem glOk {W : World} (h : laidMetH Tryz.prog Rows.followChecksRow.laid W) : GlOk Tryz.prog glw (ghOf W) := by
  have h' : laidMet Tryz.prog Rows.followChecksRow.laid W := h
  refine glT_ok ?_ fun x hx => ?_
  · intro k hk
    have := ks_sub k hk
    rw [← ks_eq] at this
    exact sent_of_laid h' errName Tryz.underlying287 k this
  · simp only [List.mem_singleton] at hx
    subst hx
    exact tab_of_laid h' tab_mem (g := 3) (t := 122) (n := 64) (e := 5) (by kernel_rfl) (by kernel_rfl) (by kernel_rfl) (by kernel_rfl) (by kernel_rfl) (by kernel_rfl)

/-- types of numbers, texts and lists -/
def S0 : List TypeId := [3, 4, 48, 50, 23, 24, 25, 27, 22]
theorem closed0 : S0.all (closedT Tryz.prog S0) = true := by kernel_rfl
theorem laidDoor (os : Os) (args : Array Value) : laidMetH Tryz.prog Rows.followChecksRow.laid ((World.doorLaid Tryz.prog 320 os).forCall (fun _ _ => 0) ⟨#[], args, []⟩).memory :=
  laidMet_of_run' 8 (by kernel_rfl) (by kernel_rfl)

end Go.Proofs.YtnlijejfagjbeaaGreatDoor
