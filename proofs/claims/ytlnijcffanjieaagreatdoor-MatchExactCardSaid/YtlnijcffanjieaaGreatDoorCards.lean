/-
  DERIVED. GIVEN WITH THE SEED: THE CARDS: each row of YtlnijcffanjieaaGreatDoorRows.lean that lists a variable, with what it lists TIED to the program's text (the seventh form; the later family's looks); each row that meets fmt, with fmt's text TOLD by the authors' own Lean function (tested against real Go, not proved from fmt's source: count such statements apart). THE CARD IS WHAT COUNTS. Prove the row's statement (the work); the ties are given (YtlnijcffanjieaaGreatDoorTie.lean); close each card by the builder's one call (the guide's Derived/Test/ToyasCard.lean, 'card_holds'). Laid BY PROGRAM, IN A SANDBOX (cutbox-door.mjs). By AI agents, Wed Nov 11 2026. No macro, syntax, notation, axiom, sorry.
-/
import Derived.Test.YtlnijcffanjieaaGreatDoorRows
import GoSem.ClaimSeven
namespace Go.Proofs.YtlnijcffanjieaaGreatDoor
namespace Rows

/-- THE TIED CARD OF 'bolterlaw9.MatchParts'. -/
def matchPartsCard : Claim7 := { stood := { row := matchPartsRow, standIns := [], harness := (true, "abb4e4b826627d6fc7037ede20dee9908ed8fa917678f3acfec2e3644ff2927e"), looks := true }, kinds := [], alts := [], laidByText := true, laidKinds := [.sentinel, .sentinel, .sentinel, .sentinel, .sentinel, .sentinel, .sentinel, .sentinel, .sentinel, .sentinel, .sentinel, .sentinel, .sentinel, .sentinel, .sentinel, .sentinel], laidTests := true, laidLooks := .later }
def MatchPartsCardSaid : Prop := Claim7.holds Tryz.pinned (.plain (OpenSpec.ofChange matchPartsSpec)) matchPartsCard

/-- THE TIED CARD OF 'bolterlaw9.MatchLaws'. -/
def matchLawsCard : Claim7 := { stood := { row := matchLawsRow, standIns := [], harness := (true, "abb4e4b826627d6fc7037ede20dee9908ed8fa917678f3acfec2e3644ff2927e"), looks := true }, kinds := [], alts := [], laidByText := true, laidKinds := [.sentinel, .sentinel, .sentinel, .sentinel, .sentinel, .sentinel, .sentinel, .sentinel, .sentinel, .sentinel, .sentinel, .sentinel, .sentinel, .sentinel, .sentinel, .sentinel], laidTests := true, laidLooks := .later }
def MatchLawsCardSaid : Prop := Claim7.holds Tryz.pinned (.plain (OpenSpec.ofChange matchLawsSpec)) matchLawsCard

/-- THE TIED CARD OF 'bolterlaw9.MatchGreatest'. -/
def matchGreatestCard : Claim7 := { stood := { row := matchGreatestRow, standIns := [], harness := (true, "abb4e4b826627d6fc7037ede20dee9908ed8fa917678f3acfec2e3644ff2927e"), looks := true }, kinds := [], alts := [], laidByText := true, laidKinds := [.sentinel, .sentinel, .sentinel, .sentinel, .sentinel, .sentinel, .sentinel, .sentinel, .sentinel, .sentinel, .sentinel, .sentinel, .sentinel, .sentinel, .sentinel, .sentinel], laidTests := true, laidLooks := .later }
def MatchGreatestCardSaid : Prop := Claim7.holds Tryz.pinned (.plain (OpenSpec.ofChange matchGreatestSpec)) matchGreatestCard

/-- THE TIED CARD OF 'bolterlaw9.MatchMore'. -/
def matchMoreCard : Claim7 := { stood := { row := matchMoreRow, standIns := [], harness := (true, "abb4e4b826627d6fc7037ede20dee9908ed8fa917678f3acfec2e3644ff2927e"), looks := true }, kinds := [], alts := [], laidByText := true, laidKinds := [.sentinel, .sentinel, .sentinel, .sentinel, .sentinel, .sentinel, .sentinel, .sentinel, .sentinel, .sentinel, .sentinel, .sentinel, .sentinel, .sentinel, .sentinel, .sentinel], laidTests := true, laidLooks := .later }
def MatchMoreCardSaid : Prop := Claim7.holds Tryz.pinned (.plain (OpenSpec.ofChange matchMoreSpec)) matchMoreCard

/-- THE TIED CARD OF 'bolterlaw9.MatchLengths'. -/
def matchLengthsCard : Claim7 := { stood := { row := matchLengthsRow, standIns := [], harness := (true, "abb4e4b826627d6fc7037ede20dee9908ed8fa917678f3acfec2e3644ff2927e"), looks := true }, kinds := [], alts := [], laidByText := true, laidKinds := [.sentinel, .sentinel, .sentinel, .sentinel, .sentinel, .sentinel, .sentinel, .sentinel, .sentinel, .sentinel, .sentinel, .sentinel, .sentinel, .sentinel, .sentinel, .sentinel], laidTests := true, laidLooks := .later }
def MatchLengthsCardSaid : Prop := Claim7.holds Tryz.pinned (.plain (OpenSpec.ofChange matchLengthsSpec)) matchLengthsCard

/-- THE TIED CARD OF 'bolterlaw9.MatchExact'. -/
def matchExactCard : Claim7 := { stood := { row := matchExactRow, standIns := [], harness := (true, "abb4e4b826627d6fc7037ede20dee9908ed8fa917678f3acfec2e3644ff2927e"), looks := true }, kinds := [], alts := [], laidByText := true, laidKinds := [.handle, .sentinel, .sentinel, .sentinel, .sentinel, .sentinel, .sentinel, .sentinel, .sentinel, .sentinel, .sentinel, .sentinel, .sentinel, .sentinel, .sentinel, .sentinel, .sentinel], laidTests := true, laidLooks := .later }
def MatchExactCardSaid : Prop := Claim7.holds Tryz.pinned (.plain (OpenSpec.ofChange matchExactSpec)) matchExactCard

/-- THE TIED CARD OF 'bolterlaw9.MatchLabels'. -/
def matchLabelsCard : Claim7 := { stood := { row := matchLabelsRow, standIns := [], harness := (true, "abb4e4b826627d6fc7037ede20dee9908ed8fa917678f3acfec2e3644ff2927e"), looks := true }, kinds := [], alts := [], laidByText := true, laidKinds := [.handle, .sentinel, .sentinel, .sentinel, .sentinel, .sentinel, .sentinel, .sentinel, .sentinel, .sentinel, .sentinel, .sentinel, .sentinel, .sentinel, .sentinel, .sentinel, .sentinel], laidTests := true, laidLooks := .later }
def MatchLabelsCardSaid : Prop := Claim7.holds Tryz.pinned (.plain (OpenSpec.ofChange matchLabelsSpec)) matchLabelsCard

/-- THE SECOND FORM's CARD OF 'bolterlaw9.MatchParts'. -/
def matchPartsUptoCard : Claim7 := { stood := { row := matchPartsUptoRow, standIns := [], harness := (true, "abb4e4b826627d6fc7037ede20dee9908ed8fa917678f3acfec2e3644ff2927e"), looks := true }, kinds := [], alts := [], laidByText := true, laidKinds := [.sentinel, .sentinel, .sentinel, .sentinel, .sentinel, .sentinel, .sentinel, .sentinel, .sentinel, .sentinel, .sentinel, .sentinel, .sentinel, .sentinel, .sentinel, .sentinel], laidTests := true, laidLooks := .later }
def MatchPartsUptoCardSaid : Prop := Claim7.holds Tryz.pinned (.plain (OpenSpec.upto matchPartsSpec)) matchPartsUptoCard

/-- THE SECOND FORM's CARD OF 'bolterlaw9.MatchLaws'. -/
def matchLawsUptoCard : Claim7 := { stood := { row := matchLawsUptoRow, standIns := [], harness := (true, "abb4e4b826627d6fc7037ede20dee9908ed8fa917678f3acfec2e3644ff2927e"), looks := true }, kinds := [], alts := [], laidByText := true, laidKinds := [.sentinel, .sentinel, .sentinel, .sentinel, .sentinel, .sentinel, .sentinel, .sentinel, .sentinel, .sentinel, .sentinel, .sentinel, .sentinel, .sentinel, .sentinel, .sentinel], laidTests := true, laidLooks := .later }
def MatchLawsUptoCardSaid : Prop := Claim7.holds Tryz.pinned (.plain (OpenSpec.upto matchLawsSpec)) matchLawsUptoCard

/-- THE SECOND FORM's CARD OF 'bolterlaw9.MatchGreatest'. -/
def matchGreatestUptoCard : Claim7 := { stood := { row := matchGreatestUptoRow, standIns := [], harness := (true, "abb4e4b826627d6fc7037ede20dee9908ed8fa917678f3acfec2e3644ff2927e"), looks := true }, kinds := [], alts := [], laidByText := true, laidKinds := [.sentinel, .sentinel, .sentinel, .sentinel, .sentinel, .sentinel, .sentinel, .sentinel, .sentinel, .sentinel, .sentinel, .sentinel, .sentinel, .sentinel, .sentinel, .sentinel], laidTests := true, laidLooks := .later }
def MatchGreatestUptoCardSaid : Prop := Claim7.holds Tryz.pinned (.plain (OpenSpec.upto matchGreatestSpec)) matchGreatestUptoCard

/-- THE SECOND FORM's CARD OF 'bolterlaw9.MatchMore'. -/
def matchMoreUptoCard : Claim7 := { stood := { row := matchMoreUptoRow, standIns := [], harness := (true, "abb4e4b826627d6fc7037ede20dee9908ed8fa917678f3acfec2e3644ff2927e"), looks := true }, kinds := [], alts := [], laidByText := true, laidKinds := [.sentinel, .sentinel, .sentinel, .sentinel, .sentinel, .sentinel, .sentinel, .sentinel, .sentinel, .sentinel, .sentinel, .sentinel, .sentinel, .sentinel, .sentinel, .sentinel], laidTests := true, laidLooks := .later }
def MatchMoreUptoCardSaid : Prop := Claim7.holds Tryz.pinned (.plain (OpenSpec.upto matchMoreSpec)) matchMoreUptoCard

/-- THE SECOND FORM's CARD OF 'bolterlaw9.MatchLengths'. -/
def matchLengthsUptoCard : Claim7 := { stood := { row := matchLengthsUptoRow, standIns := [], harness := (true, "abb4e4b826627d6fc7037ede20dee9908ed8fa917678f3acfec2e3644ff2927e"), looks := true }, kinds := [], alts := [], laidByText := true, laidKinds := [.sentinel, .sentinel, .sentinel, .sentinel, .sentinel, .sentinel, .sentinel, .sentinel, .sentinel, .sentinel, .sentinel, .sentinel, .sentinel, .sentinel, .sentinel, .sentinel], laidTests := true, laidLooks := .later }
def MatchLengthsUptoCardSaid : Prop := Claim7.holds Tryz.pinned (.plain (OpenSpec.upto matchLengthsSpec)) matchLengthsUptoCard

/-- THE SECOND FORM's CARD OF 'bolterlaw9.MatchExact'. -/
def matchExactUptoCard : Claim7 := { stood := { row := matchExactUptoRow, standIns := [], harness := (true, "abb4e4b826627d6fc7037ede20dee9908ed8fa917678f3acfec2e3644ff2927e"), looks := true }, kinds := [], alts := [], laidByText := true, laidKinds := [.handle, .sentinel, .sentinel, .sentinel, .sentinel, .sentinel, .sentinel, .sentinel, .sentinel, .sentinel, .sentinel, .sentinel, .sentinel, .sentinel, .sentinel, .sentinel, .sentinel], laidTests := true, laidLooks := .later }
def MatchExactUptoCardSaid : Prop := Claim7.holds Tryz.pinned (.plain (OpenSpec.upto matchExactSpec)) matchExactUptoCard

/-- THE SECOND FORM's CARD OF 'bolterlaw9.MatchLabels'. -/
def matchLabelsUptoCard : Claim7 := { stood := { row := matchLabelsUptoRow, standIns := [], harness := (true, "abb4e4b826627d6fc7037ede20dee9908ed8fa917678f3acfec2e3644ff2927e"), looks := true }, kinds := [], alts := [], laidByText := true, laidKinds := [.handle, .sentinel, .sentinel, .sentinel, .sentinel, .sentinel, .sentinel, .sentinel, .sentinel, .sentinel, .sentinel, .sentinel, .sentinel, .sentinel, .sentinel, .sentinel, .sentinel], laidTests := true, laidLooks := .later }
def MatchLabelsUptoCardSaid : Prop := Claim7.holds Tryz.pinned (.plain (OpenSpec.upto matchLabelsSpec)) matchLabelsUptoCard
end Rows
end Go.Proofs.YtlnijcffanjieaaGreatDoor
