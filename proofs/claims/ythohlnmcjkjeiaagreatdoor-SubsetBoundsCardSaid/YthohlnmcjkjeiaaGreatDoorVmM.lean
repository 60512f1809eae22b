/- Seat 8: the closed run that the laws end in, with what it reads known. Conditions: none but those named. -/
import Derived.Test.YthohlnmcjkjeiaaGreatDoorVmL
namespace Go.Proofs.YthohlnmcjkjeiaaGreatDoor
open Go.Proofs.Tryz
set_option maxRecDepth 1000000
open Go Go.Vm
end Go.Proofs.YthohlnmcjkjeiaaGreatDoor
