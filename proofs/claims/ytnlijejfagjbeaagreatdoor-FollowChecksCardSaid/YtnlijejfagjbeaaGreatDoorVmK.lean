/- FollowChecks: the closed run that the law ends in: its text, read; the rest, with that known. Conditions: none but those that each theorem names. -/
import Derived.Test.YtnlijejfagjbeaaGreatDoorVmG

namespace Go.Proofs.YtnlijejfagjbeaaGreatDoor
set_option maxRecDepth 1000000
open Go Go.Vm
theorem read_run (n : Nat) : callA Tryz.prog { g := glw, hk := hkOf hooks1, uq := uqw } (n + 60) 18 rdA ⟨[], []⟩ = some (.ret rdV, ⟨[], []⟩) := by kernel_rfl
end Go.Proofs.YtnlijejfagjbeaaGreatDoor
