/- S8: errors.Is and errors.As, of errors of errors.New's make. Conditions: none but those named. -/
import Derived.Test.YthohlnmcjkjeiaaGreatDoorProg
import Derived.WalkKit
import Derived.LaidEql
import Derived.Stop.Asserts
import Derived.RowKitTokens
import Derived.Test.YthohlnmcjkjeiaaGreatDoorVmA
namespace Go.Proofs.YthohlnmcjkjeiaaGreatDoor
open Go.Proofs.Tryz
set_option maxRecDepth 100000
open Go.RowKit Go.Extern.Stop Go.Stop Go.Extern
end Go.Proofs.YthohlnmcjkjeiaaGreatDoor
