/-
  DERIVED. GIVEN WITH THE SEED: THE CARDS: each row of YtnlijejfagjbeaaGreatDoorRows.lean that lists a variable, with what it lists TIED to the program's text (the seventh form; the later family's looks); each row that meets fmt, with fmt's text TOLD by the authors' own Lean function (tested against real Go, not proved from fmt's source: count such statements apart). THE CARD IS WHAT COUNTS. Prove the row's statement (the work); the ties are given (YtnlijejfagjbeaaGreatDoorTie.lean); close each card by the builder's one call (the guide's Derived/Test/ToyasCard.lean, 'card_holds'). Laid BY PROGRAM, IN A SANDBOX (cutbox-door.mjs). By AI agents, Wed Nov 11 2026. No macro, syntax, notation, axiom, sorry.
-/
import Derived.Test.YtnlijejfagjbeaaGreatDoorRows
import GoSem.ClaimSeven
namespace Go.Proofs.YtnlijejfagjbeaaGreatDoor
namespace Rows

/-- THE TIED CARD OF 'bolterlaw10.FollowChecks'. -/
def followChecksCard : Claim7 := { stood := { row := followChecksRow, standIns := [], harness := (true, "7354921901c0284f73e9293aa17395c0b872572dc7275099193938616f1011d4"), looks := true }, kinds := [], alts := [], laidByText := true, laidKinds := [.data, .sentinel, .sentinel, .sentinel, .sentinel, .sentinel, .sentinel, .sentinel, .sentinel, .sentinel, .sentinel, .sentinel, .sentinel, .sentinel, .sentinel, .sentinel, .sentinel], laidTests := true, laidLooks := .later }
def FollowChecksCardSaid : Prop := Claim7.holds Tryz.pinned (.plain (OpenSpec.ofChange followChecksSpec)) followChecksCard

/-- THE SECOND FORM's CARD OF 'bolterlaw10.FollowChecks'. -/
def followChecksUptoCard : Claim7 := { stood := { row := followChecksUptoRow, standIns := [], harness := (true, "7354921901c0284f73e9293aa17395c0b872572dc7275099193938616f1011d4"), looks := true }, kinds := [], alts := [], laidByText := true, laidKinds := [.data, .sentinel, .sentinel, .sentinel, .sentinel, .sentinel, .sentinel, .sentinel, .sentinel, .sentinel, .sentinel, .sentinel, .sentinel, .sentinel, .sentinel, .sentinel, .sentinel], laidTests := true, laidLooks := .later }
def FollowChecksUptoCardSaid : Prop := Claim7.holds Tryz.pinned (.plain (OpenSpec.upto followChecksSpec)) followChecksUptoCard
end Rows
end Go.Proofs.YtnlijejfagjbeaaGreatDoor
