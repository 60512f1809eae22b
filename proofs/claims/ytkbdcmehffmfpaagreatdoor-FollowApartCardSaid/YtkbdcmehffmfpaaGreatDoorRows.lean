/-
  NARROWER THAN 'FOR EVERY INPUT', by the rows' own cells (each row's printed sentence says how): FollowApart: loops, laid · FollowTrails: loops, laid.
  DERIVED. THE GIVEN ROWS OF THIS SEAT. 2 by the template 'for every input the law returns true; each argument reads behind the call as it read before'; 0 by the template 'total and deterministic' (their statements: YtkbdcmehffmfpaaGreatDoorTotals.lean).
  GIVEN WITH THE SEED: the statements are not yours to turn. If you find one false, say at which input.
  Laid BY PROGRAM, IN A SANDBOX (cutbox-rows.mjs): the forced cells as the released guide's own fill.sh prints them over the translation 75fe946adf94cd40… (all of the seat's roots in one cut). By AI agents, Wed Nov 11 2026. No macro, syntax, notation, axiom, sorry.
-/
import Derived.Test.YtkbdcmehffmfpaaGreatDoorChecked
import GoSem.Claim
import GoSem.ClaimJoined
import GoSem.ClaimMapViews
import Derived.JoinedTies
import Derived.KernelRfl
namespace Go.Proofs.YtkbdcmehffmfpaaGreatDoor
/- THE CELL 'sum', in the pinned program and in every row, IS THE sha256 OF THE DUMP (.gsa) THAT YtkbdcmehffmfpaaGreatDoorProg.lean LOADS. Nothing in Lean hashes anything: it is a label: what it is worth is what the hold of that sum in a sandbox is worth. -/
noncomputable def Tryz.pinned : Pinned := { name := "ytkbdcmehffmfpaagreatdoor", sum := "75fe946adf94cd409d927126c432eee17898143ae91087d14f6542d1f9d957f0", checked := Tryz.checked }
namespace Rows
def none {H : Type} : Left H := { results := [], args := [] }

/- WHAT THE LISTED PACKAGE-LEVEL VARIABLES READ AS WHEN THE CALL BEGINS. Each datum BY PROGRAM (the guide's laid-datum.mjs) off the statement by which the dump's own 'gosem.cut.vars' lays the variable. In a bare row this is a premise. The card (YtkbdcmehffmfpaaGreatDoorCards.lean) ties it to the program's text. -/
def laid_math_bits_deBruijn64tab {H : Type} : DataW H := .agg [.lit (.int .u8 0), .lit (.int .u8 1), .lit (.int .u8 56), .lit (.int .u8 2), .lit (.int .u8 57), .lit (.int .u8 49), .lit (.int .u8 28), .lit (.int .u8 3), .lit (.int .u8 61), .lit (.int .u8 58), .lit (.int .u8 42), .lit (.int .u8 50), .lit (.int .u8 38), .lit (.int .u8 29), .lit (.int .u8 17), .lit (.int .u8 4), .lit (.int .u8 62), .lit (.int .u8 47), .lit (.int .u8 59), .lit (.int .u8 36), .lit (.int .u8 45), .lit (.int .u8 43), .lit (.int .u8 51), .lit (.int .u8 22), .lit (.int .u8 53), .lit (.int .u8 39), .lit (.int .u8 33), .lit (.int .u8 30), .lit (.int .u8 24), .lit (.int .u8 18), .lit (.int .u8 12), .lit (.int .u8 5), .lit (.int .u8 63), .lit (.int .u8 55), .lit (.int .u8 48), .lit (.int .u8 27), .lit (.int .u8 60), .lit (.int .u8 41), .lit (.int .u8 37), .lit (.int .u8 16), .lit (.int .u8 46), .lit (.int .u8 35), .lit (.int .u8 44), .lit (.int .u8 21), .lit (.int .u8 52), .lit (.int .u8 32), .lit (.int .u8 23), .lit (.int .u8 11), .lit (.int .u8 54), .lit (.int .u8 26), .lit (.int .u8 40), .lit (.int .u8 15), .lit (.int .u8 34), .lit (.int .u8 20), .lit (.int .u8 31), .lit (.int .u8 10), .lit (.int .u8 25), .lit (.int .u8 14), .lit (.int .u8 19), .lit (.int .u8 9), .lit (.int .u8 13), .lit (.int .u8 8), .lit (.int .u8 7), .lit (.int .u8 6)]
def laid_bolter_fault_ErrLong {H : Type} : DataW H := .iface "*errors.errorString" (.ptr (.agg [.lit (.string [116, 111, 111, 32, 108, 111, 110, 103])]))
def laid_bolter_fault_ErrSyntax {H : Type} : DataW H := .iface "*errors.errorString" (.ptr (.agg [.lit (.string [115, 121, 110, 116, 97, 120])]))
def laid_bolter_fault_ErrDeep {H : Type} : DataW H := .iface "*errors.errorString" (.ptr (.agg [.lit (.string [116, 111, 111, 32, 100, 101, 101, 112])]))
def laid_bolter_fault_ErrMany {H : Type} : DataW H := .iface "*errors.errorString" (.ptr (.agg [.lit (.string [116, 111, 111, 32, 109, 97, 110, 121])]))
def laid_bolter_fault_ErrName {H : Type} : DataW H := .iface "*errors.errorString" (.ptr (.agg [.lit (.string [110, 97, 109, 101])]))
def laid_bolter_fault_ErrDefCycle {H : Type} : DataW H := .iface "*errors.errorString" (.ptr (.agg [.lit (.string [100, 101, 102, 105, 110, 105, 116, 105, 111, 110, 32, 99, 121, 99, 108, 101])]))
def laid_bolter_fault_ErrRepeat {H : Type} : DataW H := .iface "*errors.errorString" (.ptr (.agg [.lit (.string [114, 101, 112, 101, 97, 116])]))
def laid_bolter_fault_ErrTooManyPositions {H : Type} : DataW H := .iface "*errors.errorString" (.ptr (.agg [.lit (.string [116, 111, 111, 32, 109, 97, 110, 121, 32, 112, 111, 115, 105, 116, 105, 111, 110, 115])]))
def laid_bolter_fault_ErrTrail {H : Type} : DataW H := .iface "*errors.errorString" (.ptr (.agg [.lit (.string [116, 114, 97, 105, 108, 105, 110, 103, 32, 99, 111, 110, 116, 101, 120, 116])]))
def laid_bolter_fault_ErrTooManyStates {H : Type} : DataW H := .iface "*errors.errorString" (.ptr (.agg [.lit (.string [116, 111, 111, 32, 109, 97, 110, 121, 32, 115, 116, 97, 116, 101, 115])]))
def laid_bolter_fault_ErrImage {H : Type} : DataW H := .iface "*errors.errorString" (.ptr (.agg [.lit (.string [105, 109, 97, 103, 101])]))
def laid_bolter_fault_ErrModeStack {H : Type} : DataW H := .iface "*errors.errorString" (.ptr (.agg [.lit (.string [109, 111, 100, 101, 32, 115, 116, 97, 99, 107])]))
def laid_bolter_fault_ErrClosed {H : Type} : DataW H := .iface "*errors.errorString" (.ptr (.agg [.lit (.string [99, 108, 111, 115, 101, 100])]))
def laid_bolter_fault_ErrArg {H : Type} : DataW H := .iface "*errors.errorString" (.ptr (.agg [.lit (.string [97, 114, 103, 117, 109, 101, 110, 116])]))
def laid_bolter_fault_ErrCommand {H : Type} : DataW H := .iface "*errors.errorString" (.ptr (.agg [.lit (.string [99, 111, 109, 109, 97, 110, 100])]))
def laid_bolter_fault_ErrHandle {H : Type} : DataW H := .iface "*errors.errorString" (.ptr (.agg [.lit (.string [104, 97, 110, 100, 108, 101])]))

/-- 'bolterlaw10.FollowApart': WHATEVER THE INPUT: true; the input reads as it did. -/
def followApartSpec : ChangeSpec := { name := "followApart", fn := fun _ => fun
  | [d] => { results := [.lit (.bool true)], args := [d] }
  | _ => none }
def followApartRow : OpenClaim := { program := "ytkbdcmehffmfpaagreatdoor", sum := "75fe946adf94cd409d927126c432eee17898143ae91087d14f6542d1f9d957f0", func := "bolter/bolterlaw10.FollowApart", spec := "followApart", inPlace := ["internal/bytealg.IndexByteString", "internal/bytealg.IndexString", "internal/reflectlite.TypeOf"], unfollowed := true, recurses := true, named := ["bolter/fault.ErrSyntax", "bolter/fault.ErrLong", "bolter/fault.ErrDeep", "internal/bytealg.MaxLen", "bolter/fault.ErrMany", "bolter/fault.ErrName", "bolter/fault.ErrDefCycle", "bolter/fault.ErrRepeat", "bolter/fault.ErrTooManyPositions", "bolter/fault.ErrTrail", "bolter/fault.ErrTooManyStates", "bolter/fault.ErrImage", "bolter/fault.ErrModeStack", "bolter/fault.ErrClosed", "bolter/fault.ErrArg", "bolter/fault.ErrCommand", "bolter/fault.ErrHandle", "math/bits.deBruijn64tab"], loops := true, apart := false, laid := [("math/bits.deBruijn64tab", laid_math_bits_deBruijn64tab), ("bolter/fault.ErrLong", laid_bolter_fault_ErrLong), ("bolter/fault.ErrSyntax", laid_bolter_fault_ErrSyntax), ("bolter/fault.ErrDeep", laid_bolter_fault_ErrDeep), ("bolter/fault.ErrMany", laid_bolter_fault_ErrMany), ("bolter/fault.ErrName", laid_bolter_fault_ErrName), ("bolter/fault.ErrDefCycle", laid_bolter_fault_ErrDefCycle), ("bolter/fault.ErrRepeat", laid_bolter_fault_ErrRepeat), ("bolter/fault.ErrTooManyPositions", laid_bolter_fault_ErrTooManyPositions), ("bolter/fault.ErrTrail", laid_bolter_fault_ErrTrail), ("bolter/fault.ErrTooManyStates", laid_bolter_fault_ErrTooManyStates), ("bolter/fault.ErrImage", laid_bolter_fault_ErrImage), ("bolter/fault.ErrModeStack", laid_bolter_fault_ErrModeStack), ("bolter/fault.ErrClosed", laid_bolter_fault_ErrClosed), ("bolter/fault.ErrArg", laid_bolter_fault_ErrArg), ("bolter/fault.ErrCommand", laid_bolter_fault_ErrCommand), ("bolter/fault.ErrHandle", laid_bolter_fault_ErrHandle)] }
def FollowApartSaid : Prop := followApartRow.holds Tryz.pinned (OpenSpec.ofChange followApartSpec)

/-- ITS FALSE NEIGHBOUR: 'it returns false'. Refute it at one input. -/
def followApartWrong : ChangeSpec := { name := "followApart", fn := fun _ => fun
  | [d] => { results := [.lit (.bool false)], args := [d] }
  | _ => none }
def FollowApartWrongFalsely : Prop := followApartRow.holds Tryz.pinned (OpenSpec.ofChange followApartWrong)

/-- 'bolterlaw10.FollowTrails': WHATEVER THE INPUT: true; the input reads as it did. -/
def followTrailsSpec : ChangeSpec := { name := "followTrails", fn := fun _ => fun
  | [d] => { results := [.lit (.bool true)], args := [d] }
  | _ => none }
def followTrailsRow : OpenClaim := { program := "ytkbdcmehffmfpaagreatdoor", sum := "75fe946adf94cd409d927126c432eee17898143ae91087d14f6542d1f9d957f0", func := "bolter/bolterlaw10.FollowTrails", spec := "followTrails", inPlace := ["internal/bytealg.IndexByteString", "internal/bytealg.IndexString", "internal/reflectlite.TypeOf"], unfollowed := true, recurses := true, named := ["bolter/fault.ErrSyntax", "bolter/fault.ErrLong", "bolter/fault.ErrDeep", "internal/bytealg.MaxLen", "bolter/fault.ErrMany", "bolter/fault.ErrName", "bolter/fault.ErrDefCycle", "bolter/fault.ErrRepeat", "bolter/fault.ErrTooManyPositions", "bolter/fault.ErrTrail", "bolter/fault.ErrTooManyStates", "bolter/fault.ErrImage", "bolter/fault.ErrModeStack", "bolter/fault.ErrClosed", "bolter/fault.ErrArg", "bolter/fault.ErrCommand", "bolter/fault.ErrHandle", "math/bits.deBruijn64tab"], loops := true, apart := false, laid := [("math/bits.deBruijn64tab", laid_math_bits_deBruijn64tab), ("bolter/fault.ErrLong", laid_bolter_fault_ErrLong), ("bolter/fault.ErrSyntax", laid_bolter_fault_ErrSyntax), ("bolter/fault.ErrDeep", laid_bolter_fault_ErrDeep), ("bolter/fault.ErrMany", laid_bolter_fault_ErrMany), ("bolter/fault.ErrName", laid_bolter_fault_ErrName), ("bolter/fault.ErrDefCycle", laid_bolter_fault_ErrDefCycle), ("bolter/fault.ErrRepeat", laid_bolter_fault_ErrRepeat), ("bolter/fault.ErrTooManyPositions", laid_bolter_fault_ErrTooManyPositions), ("bolter/fault.ErrTrail", laid_bolter_fault_ErrTrail), ("bolter/fault.ErrTooManyStates", laid_bolter_fault_ErrTooManyStates), ("bolter/fault.ErrImage", laid_bolter_fault_ErrImage), ("bolter/fault.ErrModeStack", laid_bolter_fault_ErrModeStack), ("bolter/fault.ErrClosed", laid_bolter_fault_ErrClosed), ("bolter/fault.ErrArg", laid_bolter_fault_ErrArg), ("bolter/fault.ErrCommand", laid_bolter_fault_ErrCommand), ("bolter/fault.ErrHandle", laid_bolter_fault_ErrHandle)] }
def FollowTrailsSaid : Prop := followTrailsRow.holds Tryz.pinned (OpenSpec.ofChange followTrailsSpec)

/-- ITS FALSE NEIGHBOUR: 'it returns false'. Refute it at one input. -/
def followTrailsWrong : ChangeSpec := { name := "followTrails", fn := fun _ => fun
  | [d] => { results := [.lit (.bool false)], args := [d] }
  | _ => none }
def FollowTrailsWrongFalsely : Prop := followTrailsRow.holds Tryz.pinned (OpenSpec.ofChange followTrailsWrong)

/- THE SECOND FORM. 'bulk': how many values and letters a reading holds, each counted each time it is reached (what is shared counts as often as it is met; a slice's spare places count too). A statement '..UptoSaid' is the law's where the arguments, and the package variables that the reading takes, are together of bulk at most 1048576: NARROWER than '..Said'. Prove '..Said' where nothing that the law and all that it calls make is longer than what came in: it says more and counts as full. Else prove '..UptoSaid'. A law counts once. -/
mutual
def uptoBulk {H : Type} : DataW H → Nat
  | .lit (.string bytes) => bytes.length + 1
  | .lit _ => 1
  | .nil => 1
  | .ptr d => uptoBulk d + 1
  | .slice elems spare => uptoBulkAll elems + uptoBulkAll spare + 1
  | .agg parts => uptoBulkAll parts + 1
  | .iface _ d => uptoBulk d + 1
  | .map entries => uptoBulkEntries entries + 1
  | .held _ => 1
def uptoBulkAll {H : Type} : List (DataW H) → Nat
  | [] => 0
  | d :: r => uptoBulk d + uptoBulkAll r
def uptoBulkEntries {H : Type} : List (Lit × DataW H) → Nat
  | [] => 0
  | x :: r => uptoBulkEntry x + uptoBulkEntries r
def uptoBulkEntry {H : Type} : Lit × DataW H → Nat
  | (.string bytes, d) => bytes.length + uptoBulk d + 1
  | (_, d) => uptoBulk d + 1
 end
def uptoSmall : (H : Type) → List (DataW H) → Bool := fun _ ds => decide (uptoBulkAll ds ≤ 1048576)
def OpenSpec.upto (s : _root_.Go.ChangeSpec) : _root_.Go.OpenSpec := { _root_.Go.OpenSpec.ofChange s with cond := some uptoSmall }

/-- 'bolterlaw10.FollowApart', WHERE WHAT IT READS IS OF BULK AT MOST 1048576: true; the input reads as it did. -/
def followApartUptoRow : OpenClaim := { program := "ytkbdcmehffmfpaagreatdoor", sum := "75fe946adf94cd409d927126c432eee17898143ae91087d14f6542d1f9d957f0", func := "bolter/bolterlaw10.FollowApart", spec := "followApart", inPlace := ["internal/bytealg.IndexByteString", "internal/bytealg.IndexString", "internal/reflectlite.TypeOf"], unfollowed := true, recurses := true, named := ["bolter/fault.ErrSyntax", "bolter/fault.ErrLong", "bolter/fault.ErrDeep", "internal/bytealg.MaxLen", "bolter/fault.ErrMany", "bolter/fault.ErrName", "bolter/fault.ErrDefCycle", "bolter/fault.ErrRepeat", "bolter/fault.ErrTooManyPositions", "bolter/fault.ErrTrail", "bolter/fault.ErrTooManyStates", "bolter/fault.ErrImage", "bolter/fault.ErrModeStack", "bolter/fault.ErrClosed", "bolter/fault.ErrArg", "bolter/fault.ErrCommand", "bolter/fault.ErrHandle", "math/bits.deBruijn64tab"], loops := true, apart := false, laid := [("math/bits.deBruijn64tab", laid_math_bits_deBruijn64tab), ("bolter/fault.ErrLong", laid_bolter_fault_ErrLong), ("bolter/fault.ErrSyntax", laid_bolter_fault_ErrSyntax), ("bolter/fault.ErrDeep", laid_bolter_fault_ErrDeep), ("bolter/fault.ErrMany", laid_bolter_fault_ErrMany), ("bolter/fault.ErrName", laid_bolter_fault_ErrName), ("bolter/fault.ErrDefCycle", laid_bolter_fault_ErrDefCycle), ("bolter/fault.ErrRepeat", laid_bolter_fault_ErrRepeat), ("bolter/fault.ErrTooManyPositions", laid_bolter_fault_ErrTooManyPositions), ("bolter/fault.ErrTrail", laid_bolter_fault_ErrTrail), ("bolter/fault.ErrTooManyStates", laid_bolter_fault_ErrTooManyStates), ("bolter/fault.ErrImage", laid_bolter_fault_ErrImage), ("bolter/fault.ErrModeStack", laid_bolter_fault_ErrModeStack), ("bolter/fault.ErrClosed", laid_bolter_fault_ErrClosed), ("bolter/fault.ErrArg", laid_bolter_fault_ErrArg), ("bolter/fault.ErrCommand", laid_bolter_fault_ErrCommand), ("bolter/fault.ErrHandle", laid_bolter_fault_ErrHandle)], narrowed := true }
def FollowApartUptoSaid : Prop := followApartUptoRow.holds Tryz.pinned (OpenSpec.upto followApartSpec)

/-- 'bolterlaw10.FollowTrails', WHERE WHAT IT READS IS OF BULK AT MOST 1048576: true; the input reads as it did. -/
def followTrailsUptoRow : OpenClaim := { program := "ytkbdcmehffmfpaagreatdoor", sum := "75fe946adf94cd409d927126c432eee17898143ae91087d14f6542d1f9d957f0", func := "bolter/bolterlaw10.FollowTrails", spec := "followTrails", inPlace := ["internal/bytealg.IndexByteString", "internal/bytealg.IndexString", "internal/reflectlite.TypeOf"], unfollowed := true, recurses := true, named := ["bolter/fault.ErrSyntax", "bolter/fault.ErrLong", "bolter/fault.ErrDeep", "internal/bytealg.MaxLen", "bolter/fault.ErrMany", "bolter/fault.ErrName", "bolter/fault.ErrDefCycle", "bolter/fault.ErrRepeat", "bolter/fault.ErrTooManyPositions", "bolter/fault.ErrTrail", "bolter/fault.ErrTooManyStates", "bolter/fault.ErrImage", "bolter/fault.ErrModeStack", "bolter/fault.ErrClosed", "bolter/fault.ErrArg", "bolter/fault.ErrCommand", "bolter/fault.ErrHandle", "math/bits.deBruijn64tab"], loops := true, apart := false, laid := [("math/bits.deBruijn64tab", laid_math_bits_deBruijn64tab), ("bolter/fault.ErrLong", laid_bolter_fault_ErrLong), ("bolter/fault.ErrSyntax", laid_bolter_fault_ErrSyntax), ("bolter/fault.ErrDeep", laid_bolter_fault_ErrDeep), ("bolter/fault.ErrMany", laid_bolter_fault_ErrMany), ("bolter/fault.ErrName", laid_bolter_fault_ErrName), ("bolter/fault.ErrDefCycle", laid_bolter_fault_ErrDefCycle), ("bolter/fault.ErrRepeat", laid_bolter_fault_ErrRepeat), ("bolter/fault.ErrTooManyPositions", laid_bolter_fault_ErrTooManyPositions), ("bolter/fault.ErrTrail", laid_bolter_fault_ErrTrail), ("bolter/fault.ErrTooManyStates", laid_bolter_fault_ErrTooManyStates), ("bolter/fault.ErrImage", laid_bolter_fault_ErrImage), ("bolter/fault.ErrModeStack", laid_bolter_fault_ErrModeStack), ("bolter/fault.ErrClosed", laid_bolter_fault_ErrClosed), ("bolter/fault.ErrArg", laid_bolter_fault_ErrArg), ("bolter/fault.ErrCommand", laid_bolter_fault_ErrCommand), ("bolter/fault.ErrHandle", laid_bolter_fault_ErrHandle)], narrowed := true }
def FollowTrailsUptoSaid : Prop := followTrailsUptoRow.holds Tryz.pinned (OpenSpec.upto followTrailsSpec)

end Rows
end Go.Proofs.YtkbdcmehffmfpaaGreatDoor
