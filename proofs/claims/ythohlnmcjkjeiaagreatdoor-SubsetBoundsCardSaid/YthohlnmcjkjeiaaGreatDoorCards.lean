/-
  DERIVED. GIVEN WITH THE SEED: THE CARDS: each row of YthohlnmcjkjeiaaGreatDoorRows.lean that lists a variable, with what it lists TIED to the program's text (the seventh form; the later family's looks); each row that meets fmt, with fmt's text TOLD by the authors' own Lean function (tested against real Go, not proved from fmt's source: count such statements apart). THE CARD IS WHAT COUNTS. Prove the row's statement (the work); the ties are given (YthohlnmcjkjeiaaGreatDoorTie.lean); close each card by the builder's one call (the guide's Derived/Test/ToyasCard.lean, 'card_holds'). Laid BY PROGRAM, IN A SANDBOX (cutbox-door.mjs). By AI agents, Wed Nov 11 2026. No macro, syntax, notation, axiom, sorry.
-/
import Derived.Test.YthohlnmcjkjeiaaGreatDoorRows
import GoSem.ClaimSeven
namespace Go.Proofs.YthohlnmcjkjeiaaGreatDoor
namespace Rows

/-- THE TIED CARD OF 'bolterlaw10.FollowExact'. -/
def followExactCard : Claim7 := { stood := { row := followExactRow, standIns := [], harness := (true, "a39293ee0ef5ae05d3b7e1be126c0ef129d9ce1925a681d558d8eb8ace773542"), looks := true }, kinds := [], alts := [], laidByText := true, laidKinds := [.data, .handle, .sentinel, .sentinel, .sentinel, .sentinel, .sentinel, .sentinel, .sentinel, .sentinel, .sentinel, .sentinel, .sentinel, .sentinel, .sentinel, .sentinel, .sentinel, .sentinel], laidTests := true, laidLooks := .later }
def FollowExactCardSaid : Prop := Claim7.holds Tryz.pinned (.plain (OpenSpec.ofChange followExactSpec)) followExactCard

/-- THE TIED CARD OF 'bolterlaw10.FollowBounds'. -/
def followBoundsCard : Claim7 := { stood := { row := followBoundsRow, standIns := [], harness := (true, "a39293ee0ef5ae05d3b7e1be126c0ef129d9ce1925a681d558d8eb8ace773542"), looks := true }, kinds := [], alts := [], laidByText := true, laidKinds := [.data, .handle, .sentinel, .sentinel, .sentinel, .sentinel, .sentinel, .sentinel, .sentinel, .sentinel, .sentinel, .sentinel, .sentinel, .sentinel, .sentinel, .sentinel, .sentinel, .sentinel], laidTests := true, laidLooks := .later }
def FollowBoundsCardSaid : Prop := Claim7.holds Tryz.pinned (.plain (OpenSpec.ofChange followBoundsSpec)) followBoundsCard

/-- THE TIED CARD OF 'bolterlaw11.SubsetNumbers'. -/
def subsetNumbersCard : Claim7 := { stood := { row := subsetNumbersRow, standIns := [], harness := (true, "a39293ee0ef5ae05d3b7e1be126c0ef129d9ce1925a681d558d8eb8ace773542"), looks := true }, kinds := [], alts := [], laidByText := true, laidKinds := [.data, .sentinel, .sentinel, .sentinel, .sentinel, .sentinel, .sentinel, .sentinel, .sentinel, .sentinel, .sentinel, .sentinel, .sentinel, .sentinel, .sentinel, .sentinel, .sentinel], laidTests := true, laidLooks := .later }
def SubsetNumbersCardSaid : Prop := Claim7.holds Tryz.pinned (.plain (OpenSpec.ofChange subsetNumbersSpec)) subsetNumbersCard

/-- THE TIED CARD OF 'bolterlaw11.SubsetEach'. -/
def subsetEachCard : Claim7 := { stood := { row := subsetEachRow, standIns := [], harness := (true, "a39293ee0ef5ae05d3b7e1be126c0ef129d9ce1925a681d558d8eb8ace773542"), looks := true }, kinds := [], alts := [], laidByText := true, laidKinds := [.data, .sentinel, .sentinel, .sentinel, .sentinel, .sentinel, .sentinel, .sentinel, .sentinel, .sentinel, .sentinel, .sentinel, .sentinel, .sentinel, .sentinel, .sentinel, .sentinel], laidTests := true, laidLooks := .later }
def SubsetEachCardSaid : Prop := Claim7.holds Tryz.pinned (.plain (OpenSpec.ofChange subsetEachSpec)) subsetEachCard

/-- THE TIED CARD OF 'bolterlaw11.SubsetChecks'. -/
def subsetChecksCard : Claim7 := { stood := { row := subsetChecksRow, standIns := [], harness := (true, "a39293ee0ef5ae05d3b7e1be126c0ef129d9ce1925a681d558d8eb8ace773542"), looks := true }, kinds := [], alts := [], laidByText := true, laidKinds := [.data, .handle, .sentinel, .sentinel, .sentinel, .sentinel, .sentinel, .sentinel, .sentinel, .sentinel, .sentinel, .sentinel, .sentinel, .sentinel, .sentinel, .sentinel, .sentinel, .sentinel], laidTests := true, laidLooks := .later }
def SubsetChecksCardSaid : Prop := Claim7.holds Tryz.pinned (.plain (OpenSpec.ofChange subsetChecksSpec)) subsetChecksCard

/-- THE TIED CARD OF 'bolterlaw11.SubsetExact'. -/
def subsetExactCard : Claim7 := { stood := { row := subsetExactRow, standIns := [], harness := (true, "a39293ee0ef5ae05d3b7e1be126c0ef129d9ce1925a681d558d8eb8ace773542"), looks := true }, kinds := [], alts := [], laidByText := true, laidKinds := [.data, .handle, .sentinel, .sentinel, .sentinel, .sentinel, .sentinel, .sentinel, .sentinel, .sentinel, .sentinel, .sentinel, .sentinel, .sentinel, .sentinel, .sentinel, .sentinel, .sentinel], laidTests := true, laidLooks := .later }
def SubsetExactCardSaid : Prop := Claim7.holds Tryz.pinned (.plain (OpenSpec.ofChange subsetExactSpec)) subsetExactCard

/-- THE TIED CARD OF 'bolterlaw11.SubsetFewer'. -/
def subsetFewerCard : Claim7 := { stood := { row := subsetFewerRow, standIns := [], harness := (true, "a39293ee0ef5ae05d3b7e1be126c0ef129d9ce1925a681d558d8eb8ace773542"), looks := true }, kinds := [], alts := [], laidByText := true, laidKinds := [.data, .handle, .sentinel, .sentinel, .sentinel, .sentinel, .sentinel, .sentinel, .sentinel, .sentinel, .sentinel, .sentinel, .sentinel, .sentinel, .sentinel, .sentinel, .sentinel, .sentinel], laidTests := true, laidLooks := .later }
def SubsetFewerCardSaid : Prop := Claim7.holds Tryz.pinned (.plain (OpenSpec.ofChange subsetFewerSpec)) subsetFewerCard

/-- THE TIED CARD OF 'bolterlaw11.SubsetBounds'. -/
def subsetBoundsCard : Claim7 := { stood := { row := subsetBoundsRow, standIns := [], harness := (true, "a39293ee0ef5ae05d3b7e1be126c0ef129d9ce1925a681d558d8eb8ace773542"), looks := true }, kinds := [], alts := [], laidByText := true, laidKinds := [.data, .handle, .sentinel, .sentinel, .sentinel, .sentinel, .sentinel, .sentinel, .sentinel, .sentinel, .sentinel, .sentinel, .sentinel, .sentinel, .sentinel, .sentinel, .sentinel, .sentinel], laidTests := true, laidLooks := .later }
def SubsetBoundsCardSaid : Prop := Claim7.holds Tryz.pinned (.plain (OpenSpec.ofChange subsetBoundsSpec)) subsetBoundsCard

/-- THE SECOND FORM's CARD OF 'bolterlaw10.FollowExact'. -/
def followExactUptoCard : Claim7 := { stood := { row := followExactUptoRow, standIns := [], harness := (true, "a39293ee0ef5ae05d3b7e1be126c0ef129d9ce1925a681d558d8eb8ace773542"), looks := true }, kinds := [], alts := [], laidByText := true, laidKinds := [.data, .handle, .sentinel, .sentinel, .sentinel, .sentinel, .sentinel, .sentinel, .sentinel, .sentinel, .sentinel, .sentinel, .sentinel, .sentinel, .sentinel, .sentinel, .sentinel, .sentinel], laidTests := true, laidLooks := .later }
def FollowExactUptoCardSaid : Prop := Claim7.holds Tryz.pinned (.plain (OpenSpec.upto followExactSpec)) followExactUptoCard

/-- THE SECOND FORM's CARD OF 'bolterlaw10.FollowBounds'. -/
def followBoundsUptoCard : Claim7 := { stood := { row := followBoundsUptoRow, standIns := [], harness := (true, "a39293ee0ef5ae05d3b7e1be126c0ef129d9ce1925a681d558d8eb8ace773542"), looks := true }, kinds := [], alts := [], laidByText := true, laidKinds := [.data, .handle, .sentinel, .sentinel, .sentinel, .sentinel, .sentinel, .sentinel, .sentinel, .sentinel, .sentinel, .sentinel, .sentinel, .sentinel, .sentinel, .sentinel, .sentinel, .sentinel], laidTests := true, laidLooks := .later }
def FollowBoundsUptoCardSaid : Prop := Claim7.holds Tryz.pinned (.plain (OpenSpec.upto followBoundsSpec)) followBoundsUptoCard

/-- THE SECOND FORM's CARD OF 'bolterlaw11.SubsetNumbers'. -/
def subsetNumbersUptoCard : Claim7 := { stood := { row := subsetNumbersUptoRow, standIns := [], harness := (true, "a39293ee0ef5ae05d3b7e1be126c0ef129d9ce1925a681d558d8eb8ace773542"), looks := true }, kinds := [], alts := [], laidByText := true, laidKinds := [.data, .sentinel, .sentinel, .sentinel, .sentinel, .sentinel, .sentinel, .sentinel, .sentinel, .sentinel, .sentinel, .sentinel, .sentinel, .sentinel, .sentinel, .sentinel, .sentinel], laidTests := true, laidLooks := .later }
def SubsetNumbersUptoCardSaid : Prop := Claim7.holds Tryz.pinned (.plain (OpenSpec.upto subsetNumbersSpec)) subsetNumbersUptoCard

/-- THE SECOND FORM's CARD OF 'bolterlaw11.SubsetEach'. -/
def subsetEachUptoCard : Claim7 := { stood := { row := subsetEachUptoRow, standIns := [], harness := (true, "a39293ee0ef5ae05d3b7e1be126c0ef129d9ce1925a681d558d8eb8ace773542"), looks := true }, kinds := [], alts := [], laidByText := true, laidKinds := [.data, .sentinel, .sentinel, .sentinel, .sentinel, .sentinel, .sentinel, .sentinel, .sentinel, .sentinel, .sentinel, .sentinel, .sentinel, .sentinel, .sentinel, .sentinel, .sentinel], laidTests := true, laidLooks := .later }
def SubsetEachUptoCardSaid : Prop := Claim7.holds Tryz.pinned (.plain (OpenSpec.upto subsetEachSpec)) subsetEachUptoCard

/-- THE SECOND FORM's CARD OF 'bolterlaw11.SubsetChecks'. -/
def subsetChecksUptoCard : Claim7 := { stood := { row := subsetChecksUptoRow, standIns := [], harness := (true, "a39293ee0ef5ae05d3b7e1be126c0ef129d9ce1925a681d558d8eb8ace773542"), looks := true }, kinds := [], alts := [], laidByText := true, laidKinds := [.data, .handle, .sentinel, .sentinel, .sentinel, .sentinel, .sentinel, .sentinel, .sentinel, .sentinel, .sentinel, .sentinel, .sentinel, .sentinel, .sentinel, .sentinel, .sentinel, .sentinel], laidTests := true, laidLooks := .later }
def SubsetChecksUptoCardSaid : Prop := Claim7.holds Tryz.pinned (.plain (OpenSpec.upto subsetChecksSpec)) subsetChecksUptoCard

/-- THE SECOND FORM's CARD OF 'bolterlaw11.SubsetExact'. -/
def subsetExactUptoCard : Claim7 := { stood := { row := subsetExactUptoRow, standIns := [], harness := (true, "a39293ee0ef5ae05d3b7e1be126c0ef129d9ce1925a681d558d8eb8ace773542"), looks := true }, kinds := [], alts := [], laidByText := true, laidKinds := [.data, .handle, .sentinel, .sentinel, .sentinel, .sentinel, .sentinel, .sentinel, .sentinel, .sentinel, .sentinel, .sentinel, .sentinel, .sentinel, .sentinel, .sentinel, .sentinel, .sentinel], laidTests := true, laidLooks := .later }
def SubsetExactUptoCardSaid : Prop := Claim7.holds Tryz.pinned (.plain (OpenSpec.upto subsetExactSpec)) subsetExactUptoCard

/-- THE SECOND FORM's CARD OF 'bolterlaw11.SubsetFewer'. -/
def subsetFewerUptoCard : Claim7 := { stood := { row := subsetFewerUptoRow, standIns := [], harness := (true, "a39293ee0ef5ae05d3b7e1be126c0ef129d9ce1925a681d558d8eb8ace773542"), looks := true }, kinds := [], alts := [], laidByText := true, laidKinds := [.data, .handle, .sentinel, .sentinel, .sentinel, .sentinel, .sentinel, .sentinel, .sentinel, .sentinel, .sentinel, .sentinel, .sentinel, .sentinel, .sentinel, .sentinel, .sentinel, .sentinel], laidTests := true, laidLooks := .later }
def SubsetFewerUptoCardSaid : Prop := Claim7.holds Tryz.pinned (.plain (OpenSpec.upto subsetFewerSpec)) subsetFewerUptoCard

/-- THE SECOND FORM's CARD OF 'bolterlaw11.SubsetBounds'. -/
def subsetBoundsUptoCard : Claim7 := { stood := { row := subsetBoundsUptoRow, standIns := [], harness := (true, "a39293ee0ef5ae05d3b7e1be126c0ef129d9ce1925a681d558d8eb8ace773542"), looks := true }, kinds := [], alts := [], laidByText := true, laidKinds := [.data, .handle, .sentinel, .sentinel, .sentinel, .sentinel, .sentinel, .sentinel, .sentinel, .sentinel, .sentinel, .sentinel, .sentinel, .sentinel, .sentinel, .sentinel, .sentinel, .sentinel], laidTests := true, laidLooks := .later }
def SubsetBoundsUptoCardSaid : Prop := Claim7.holds Tryz.pinned (.plain (OpenSpec.upto subsetBoundsSpec)) subsetBoundsUptoCard
end Rows
end Go.Proofs.YthohlnmcjkjeiaaGreatDoor
