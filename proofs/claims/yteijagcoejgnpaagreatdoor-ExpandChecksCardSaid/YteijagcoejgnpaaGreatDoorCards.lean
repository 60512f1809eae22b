/-
  DERIVED. GIVEN WITH THE SEED: THE CARDS: each row of YteijagcoejgnpaaGreatDoorRows.lean that lists a variable, with what it lists TIED to the program's text (the seventh form; the later family's looks); each row that meets fmt, with fmt's text TOLD by the authors' own Lean function (tested against real Go, not proved from fmt's source: count such statements apart). THE CARD IS WHAT COUNTS. Prove the row's statement (the work); the ties are given (YteijagcoejgnpaaGreatDoorTie.lean); close each card by the builder's one call (the guide's Derived/Test/ToyasCard.lean, 'card_holds'). Laid BY PROGRAM, IN A SANDBOX (cutbox-door.mjs). By AI agents, Wed Nov 11 2026. No macro, syntax, notation, axiom, sorry.
-/
import Derived.Test.YteijagcoejgnpaaGreatDoorRows
import GoSem.ClaimSeven
namespace Go.Proofs.YteijagcoejgnpaaGreatDoor
namespace Rows

/-- THE TIED CARD OF 'bolterlaw7.ExpandChecks'. -/
def expandChecksCard : Claim7 := { stood := { row := expandChecksRow, standIns := [], harness := (true, "dd82d3e86e38a62219c005c12a8bd9a003a76598eb715708fe13950fab1e33c1"), looks := true }, kinds := [], alts := [], laidByText := true, laidKinds := [.sentinel, .sentinel, .sentinel, .sentinel, .sentinel, .sentinel, .sentinel, .sentinel, .sentinel, .sentinel, .sentinel, .sentinel, .sentinel, .sentinel, .sentinel, .sentinel], laidTests := true, laidLooks := .later }
def ExpandChecksCardSaid : Prop := Claim7.holds Tryz.pinned (.plain (OpenSpec.ofChange expandChecksSpec)) expandChecksCard

/-- THE TIED CARD OF 'bolterlaw7.ExpandCounts'. -/
def expandCountsCard : Claim7 := { stood := { row := expandCountsRow, standIns := [], harness := (true, "dd82d3e86e38a62219c005c12a8bd9a003a76598eb715708fe13950fab1e33c1"), looks := true }, kinds := [], alts := [], laidByText := true, laidKinds := [.sentinel, .sentinel, .sentinel, .sentinel, .sentinel, .sentinel, .sentinel, .sentinel, .sentinel, .sentinel, .sentinel, .sentinel, .sentinel, .sentinel, .sentinel, .sentinel], laidTests := true, laidLooks := .later }
def ExpandCountsCardSaid : Prop := Claim7.holds Tryz.pinned (.plain (OpenSpec.ofChange expandCountsSpec)) expandCountsCard

/-- THE TIED CARD OF 'bolterlaw7.ExpandWords'. -/
def expandWordsCard : Claim7 := { stood := { row := expandWordsRow, standIns := [], harness := (true, "dd82d3e86e38a62219c005c12a8bd9a003a76598eb715708fe13950fab1e33c1"), looks := true }, kinds := [], alts := [], laidByText := true, laidKinds := [.sentinel, .sentinel, .sentinel, .sentinel, .sentinel, .sentinel, .sentinel, .sentinel, .sentinel, .sentinel, .sentinel, .sentinel, .sentinel, .sentinel, .sentinel, .sentinel], laidTests := true, laidLooks := .later }
def ExpandWordsCardSaid : Prop := Claim7.holds Tryz.pinned (.plain (OpenSpec.ofChange expandWordsSpec)) expandWordsCard

/-- THE TIED CARD OF 'bolterlaw7.ExpandExact'. -/
def expandExactCard : Claim7 := { stood := { row := expandExactRow, standIns := [], harness := (true, "dd82d3e86e38a62219c005c12a8bd9a003a76598eb715708fe13950fab1e33c1"), looks := true }, kinds := [], alts := [], laidByText := true, laidKinds := [.handle, .sentinel, .sentinel, .sentinel, .sentinel, .sentinel, .sentinel, .sentinel, .sentinel, .sentinel, .sentinel, .sentinel, .sentinel, .sentinel, .sentinel, .sentinel, .sentinel], laidTests := true, laidLooks := .later }
def ExpandExactCardSaid : Prop := Claim7.holds Tryz.pinned (.plain (OpenSpec.ofChange expandExactSpec)) expandExactCard

/-- THE TIED CARD OF 'bolterlaw7.ExpandForms'. -/
def expandFormsCard : Claim7 := { stood := { row := expandFormsRow, standIns := [], harness := (true, "dd82d3e86e38a62219c005c12a8bd9a003a76598eb715708fe13950fab1e33c1"), looks := true }, kinds := [], alts := [], laidByText := true, laidKinds := [.handle, .sentinel, .sentinel, .sentinel, .sentinel, .sentinel, .sentinel, .sentinel, .sentinel, .sentinel, .sentinel, .sentinel, .sentinel, .sentinel, .sentinel, .sentinel, .sentinel], laidTests := true, laidLooks := .later }
def ExpandFormsCardSaid : Prop := Claim7.holds Tryz.pinned (.plain (OpenSpec.ofChange expandFormsSpec)) expandFormsCard

/-- THE TIED CARD OF 'bolterlaw7.ExpandOrder'. -/
def expandOrderCard : Claim7 := { stood := { row := expandOrderRow, standIns := [], harness := (true, "dd82d3e86e38a62219c005c12a8bd9a003a76598eb715708fe13950fab1e33c1"), looks := true }, kinds := [], alts := [], laidByText := true, laidKinds := [.handle, .sentinel, .sentinel, .sentinel, .sentinel, .sentinel, .sentinel, .sentinel, .sentinel, .sentinel, .sentinel, .sentinel, .sentinel, .sentinel, .sentinel, .sentinel, .sentinel], laidTests := true, laidLooks := .later }
def ExpandOrderCardSaid : Prop := Claim7.holds Tryz.pinned (.plain (OpenSpec.ofChange expandOrderSpec)) expandOrderCard

/-- THE TIED CARD OF 'bolterlaw7.ExpandBounds'. -/
def expandBoundsCard : Claim7 := { stood := { row := expandBoundsRow, standIns := [], harness := (true, "dd82d3e86e38a62219c005c12a8bd9a003a76598eb715708fe13950fab1e33c1"), looks := true }, kinds := [], alts := [], laidByText := true, laidKinds := [.handle, .sentinel, .sentinel, .sentinel, .sentinel, .sentinel, .sentinel, .sentinel, .sentinel, .sentinel, .sentinel, .sentinel, .sentinel, .sentinel, .sentinel, .sentinel, .sentinel], laidTests := true, laidLooks := .later }
def ExpandBoundsCardSaid : Prop := Claim7.holds Tryz.pinned (.plain (OpenSpec.ofChange expandBoundsSpec)) expandBoundsCard

/-- THE SECOND FORM's CARD OF 'bolterlaw7.ExpandChecks'. -/
def expandChecksUptoCard : Claim7 := { stood := { row := expandChecksUptoRow, standIns := [], harness := (true, "dd82d3e86e38a62219c005c12a8bd9a003a76598eb715708fe13950fab1e33c1"), looks := true }, kinds := [], alts := [], laidByText := true, laidKinds := [.sentinel, .sentinel, .sentinel, .sentinel, .sentinel, .sentinel, .sentinel, .sentinel, .sentinel, .sentinel, .sentinel, .sentinel, .sentinel, .sentinel, .sentinel, .sentinel], laidTests := true, laidLooks := .later }
def ExpandChecksUptoCardSaid : Prop := Claim7.holds Tryz.pinned (.plain (OpenSpec.upto expandChecksSpec)) expandChecksUptoCard

/-- THE SECOND FORM's CARD OF 'bolterlaw7.ExpandCounts'. -/
def expandCountsUptoCard : Claim7 := { stood := { row := expandCountsUptoRow, standIns := [], harness := (true, "dd82d3e86e38a62219c005c12a8bd9a003a76598eb715708fe13950fab1e33c1"), looks := true }, kinds := [], alts := [], laidByText := true, laidKinds := [.sentinel, .sentinel, .sentinel, .sentinel, .sentinel, .sentinel, .sentinel, .sentinel, .sentinel, .sentinel, .sentinel, .sentinel, .sentinel, .sentinel, .sentinel, .sentinel], laidTests := true, laidLooks := .later }
def ExpandCountsUptoCardSaid : Prop := Claim7.holds Tryz.pinned (.plain (OpenSpec.upto expandCountsSpec)) expandCountsUptoCard

/-- THE SECOND FORM's CARD OF 'bolterlaw7.ExpandWords'. -/
def expandWordsUptoCard : Claim7 := { stood := { row := expandWordsUptoRow, standIns := [], harness := (true, "dd82d3e86e38a62219c005c12a8bd9a003a76598eb715708fe13950fab1e33c1"), looks := true }, kinds := [], alts := [], laidByText := true, laidKinds := [.sentinel, .sentinel, .sentinel, .sentinel, .sentinel, .sentinel, .sentinel, .sentinel, .sentinel, .sentinel, .sentinel, .sentinel, .sentinel, .sentinel, .sentinel, .sentinel], laidTests := true, laidLooks := .later }
def ExpandWordsUptoCardSaid : Prop := Claim7.holds Tryz.pinned (.plain (OpenSpec.upto expandWordsSpec)) expandWordsUptoCard

/-- THE SECOND FORM's CARD OF 'bolterlaw7.ExpandExact'. -/
def expandExactUptoCard : Claim7 := { stood := { row := expandExactUptoRow, standIns := [], harness := (true, "dd82d3e86e38a62219c005c12a8bd9a003a76598eb715708fe13950fab1e33c1"), looks := true }, kinds := [], alts := [], laidByText := true, laidKinds := [.handle, .sentinel, .sentinel, .sentinel, .sentinel, .sentinel, .sentinel, .sentinel, .sentinel, .sentinel, .sentinel, .sentinel, .sentinel, .sentinel, .sentinel, .sentinel, .sentinel], laidTests := true, laidLooks := .later }
def ExpandExactUptoCardSaid : Prop := Claim7.holds Tryz.pinned (.plain (OpenSpec.upto expandExactSpec)) expandExactUptoCard

/-- THE SECOND FORM's CARD OF 'bolterlaw7.ExpandForms'. -/
def expandFormsUptoCard : Claim7 := { stood := { row := expandFormsUptoRow, standIns := [], harness := (true, "dd82d3e86e38a62219c005c12a8bd9a003a76598eb715708fe13950fab1e33c1"), looks := true }, kinds := [], alts := [], laidByText := true, laidKinds := [.handle, .sentinel, .sentinel, .sentinel, .sentinel, .sentinel, .sentinel, .sentinel, .sentinel, .sentinel, .sentinel, .sentinel, .sentinel, .sentinel, .sentinel, .sentinel, .sentinel], laidTests := true, laidLooks := .later }
def ExpandFormsUptoCardSaid : Prop := Claim7.holds Tryz.pinned (.plain (OpenSpec.upto expandFormsSpec)) expandFormsUptoCard

/-- THE SECOND FORM's CARD OF 'bolterlaw7.ExpandOrder'. -/
def expandOrderUptoCard : Claim7 := { stood := { row := expandOrderUptoRow, standIns := [], harness := (true, "dd82d3e86e38a62219c005c12a8bd9a003a76598eb715708fe13950fab1e33c1"), looks := true }, kinds := [], alts := [], laidByText := true, laidKinds := [.handle, .sentinel, .sentinel, .sentinel, .sentinel, .sentinel, .sentinel, .sentinel, .sentinel, .sentinel, .sentinel, .sentinel, .sentinel, .sentinel, .sentinel, .sentinel, .sentinel], laidTests := true, laidLooks := .later }
def ExpandOrderUptoCardSaid : Prop := Claim7.holds Tryz.pinned (.plain (OpenSpec.upto expandOrderSpec)) expandOrderUptoCard

/-- THE SECOND FORM's CARD OF 'bolterlaw7.ExpandBounds'. -/
def expandBoundsUptoCard : Claim7 := { stood := { row := expandBoundsUptoRow, standIns := [], harness := (true, "dd82d3e86e38a62219c005c12a8bd9a003a76598eb715708fe13950fab1e33c1"), looks := true }, kinds := [], alts := [], laidByText := true, laidKinds := [.handle, .sentinel, .sentinel, .sentinel, .sentinel, .sentinel, .sentinel, .sentinel, .sentinel, .sentinel, .sentinel, .sentinel, .sentinel, .sentinel, .sentinel, .sentinel, .sentinel], laidTests := true, laidLooks := .later }
def ExpandBoundsUptoCardSaid : Prop := Claim7.holds Tryz.pinned (.plain (OpenSpec.upto expandBoundsSpec)) expandBoundsUptoCard
end Rows
end Go.Proofs.YteijagcoejgnpaaGreatDoor
