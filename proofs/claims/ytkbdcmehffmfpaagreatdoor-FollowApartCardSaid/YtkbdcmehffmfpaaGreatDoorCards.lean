/-
  DERIVED. GIVEN WITH THE SEED: THE CARDS: each row of YtkbdcmehffmfpaaGreatDoorRows.lean that lists a variable, with what it lists TIED to the program's text (the seventh form; the later family's looks); each row that meets fmt, with fmt's text TOLD by the authors' own Lean function (tested against real Go, not proved from fmt's source: count such statements apart). THE CARD IS WHAT COUNTS. Prove the row's statement (the work); the ties are given (YtkbdcmehffmfpaaGreatDoorTie.lean); close each card by the builder's one call (the guide's Derived/Test/ToyasCard.lean, 'card_holds'). Laid BY PROGRAM, IN A SANDBOX (cutbox-door.mjs). By AI agents, Wed Nov 11 2026. No macro, syntax, notation, axiom, sorry.
-/
import Derived.Test.YtkbdcmehffmfpaaGreatDoorRows
import GoSem.ClaimSeven
namespace Go.Proofs.YtkbdcmehffmfpaaGreatDoor
namespace Rows

/-- THE TIED CARD OF 'bolterlaw10.FollowApart'. -/
def followApartCard : Claim7 := { stood := { row := followApartRow, standIns := [], harness := (true, "61809307db8c842ade19327d7cddc4bd4411a36257ca1c623a47bd06e6c899bc"), looks := true }, kinds := [], alts := [], laidByText := true, laidKinds := [.data, .sentinel, .sentinel, .sentinel, .sentinel, .sentinel, .sentinel, .sentinel, .sentinel, .sentinel, .sentinel, .sentinel, .sentinel, .sentinel, .sentinel, .sentinel, .sentinel], laidTests := true, laidLooks := .later }
def FollowApartCardSaid : Prop := Claim7.holds Tryz.pinned (.plain (OpenSpec.ofChange followApartSpec)) followApartCard

/-- THE TIED CARD OF 'bolterlaw10.FollowTrails'. -/
def followTrailsCard : Claim7 := { stood := { row := followTrailsRow, standIns := [], harness := (true, "61809307db8c842ade19327d7cddc4bd4411a36257ca1c623a47bd06e6c899bc"), looks := true }, kinds := [], alts := [], laidByText := true, laidKinds := [.data, .sentinel, .sentinel, .sentinel, .sentinel, .sentinel, .sentinel, .sentinel, .sentinel, .sentinel, .sentinel, .sentinel, .sentinel, .sentinel, .sentinel, .sentinel, .sentinel], laidTests := true, laidLooks := .later }
def FollowTrailsCardSaid : Prop := Claim7.holds Tryz.pinned (.plain (OpenSpec.ofChange followTrailsSpec)) followTrailsCard

/-- THE SECOND FORM's CARD OF 'bolterlaw10.FollowApart'. -/
def followApartUptoCard : Claim7 := { stood := { row := followApartUptoRow, standIns := [], harness := (true, "61809307db8c842ade19327d7cddc4bd4411a36257ca1c623a47bd06e6c899bc"), looks := true }, kinds := [], alts := [], laidByText := true, laidKinds := [.data, .sentinel, .sentinel, .sentinel, .sentinel, .sentinel, .sentinel, .sentinel, .sentinel, .sentinel, .sentinel, .sentinel, .sentinel, .sentinel, .sentinel, .sentinel, .sentinel], laidTests := true, laidLooks := .later }
def FollowApartUptoCardSaid : Prop := Claim7.holds Tryz.pinned (.plain (OpenSpec.upto followApartSpec)) followApartUptoCard

/-- THE SECOND FORM's CARD OF 'bolterlaw10.FollowTrails'. -/
def followTrailsUptoCard : Claim7 := { stood := { row := followTrailsUptoRow, standIns := [], harness := (true, "61809307db8c842ade19327d7cddc4bd4411a36257ca1c623a47bd06e6c899bc"), looks := true }, kinds := [], alts := [], laidByText := true, laidKinds := [.data, .sentinel, .sentinel, .sentinel, .sentinel, .sentinel, .sentinel, .sentinel, .sentinel, .sentinel, .sentinel, .sentinel, .sentinel, .sentinel, .sentinel, .sentinel, .sentinel], laidTests := true, laidLooks := .later }
def FollowTrailsUptoCardSaid : Prop := Claim7.holds Tryz.pinned (.plain (OpenSpec.upto followTrailsSpec)) followTrailsUptoCard
end Rows
end Go.Proofs.YtkbdcmehffmfpaaGreatDoor
