/- Seat 1: the closed run that every law ends in. Conditions: none but those that each theorem names. -/
import Derived.Test.YteijagcoejgnpaaGreatDoorProg
import Derived.KernelRfl
import Derived.Test.YteijagcoejgnpaaGreatDoorVmB

namespace Go.Proofs.YteijagcoejgnpaaGreatDoor
set_option maxRecDepth 1000000
open Go Go.Vm
theorem wakes_run (n : Nat) : callA Tryz.prog ⟨glOf 342 [2, 1, 5, 6, 7, 8, 3, 0, 9, 10, 11, 12, 13, 14, 15, 16], fun _ _ => none⟩ (n + 60) 16 [] ⟨[], []⟩ = some (.ret (.bool true), ⟨[], []⟩) := by kernel_rfl
end Go.Proofs.YteijagcoejgnpaaGreatDoor
