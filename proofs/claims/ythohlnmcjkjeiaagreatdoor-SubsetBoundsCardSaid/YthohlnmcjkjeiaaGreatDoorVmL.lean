/- Seat 8: the closed run that the laws end in: its text, read. Conditions: none but those named. -/
import Derived.Test.YthohlnmcjkjeiaaGreatDoorVmK
namespace Go.Proofs.YthohlnmcjkjeiaaGreatDoor
open Go.Proofs.Tryz
set_option maxRecDepth 1000000
open Go Go.Vm
end Go.Proofs.YthohlnmcjkjeiaaGreatDoor
