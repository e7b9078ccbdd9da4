/-
  DERIVED. GIVEN WITH THE SEED: THE CARDS: each row of YtcfedmheblbdnaaGreatDoorRows.lean that lists a variable, with what it lists TIED to the program's text (the seventh form; the later family's looks); each row that meets fmt, with fmt's text TOLD by the authors' own Lean function (tested against real Go, not proved from fmt's source: count such statements apart). THE CARD IS WHAT COUNTS. Prove the row's statement (the work); the ties are given (YtcfedmheblbdnaaGreatDoorTie.lean); close each card by the builder's one call (the guide's Derived/Test/ToyasCard.lean, 'card_holds'). Laid BY PROGRAM, IN A SANDBOX (cutbox-door.mjs). By AI agents, Wed Nov 11 2026. No macro, syntax, notation, axiom, sorry.
-/
import Derived.Test.YtcfedmheblbdnaaGreatDoorRows
import GoSem.ClaimSeven
namespace Go.Proofs.YtcfedmheblbdnaaGreatDoor
namespace Rows

/-- THE TIED CARD OF 'interlocklaw04.ValueRows'. -/
def valueRowsCard : Claim7 := { stood := { row := valueRowsRow, standIns := [], harness := (true, "70fcb4c4efa80e872ba2c17383a7b655d6d62e802159ba5fe3c356abf764d330"), looks := true }, kinds := [], alts := [], laidByText := true, laidKinds := [.data, .data, .data, .sentinel, .sentinel], laidTests := true, laidLooks := .later }
def ValueRowsCardSaid : Prop := Claim7.holds Tryz.pinned (.plain (OpenSpec.ofChange valueRowsSpec)) valueRowsCard

/-- THE SECOND FORM's CARD OF 'interlocklaw04.ValueRows'. -/
def valueRowsUptoCard : Claim7 := { stood := { row := valueRowsUptoRow, standIns := [], harness := (true, "70fcb4c4efa80e872ba2c17383a7b655d6d62e802159ba5fe3c356abf764d330"), looks := true }, kinds := [], alts := [], laidByText := true, laidKinds := [.data, .data, .data, .sentinel, .sentinel], laidTests := true, laidLooks := .later }
def ValueRowsUptoCardSaid : Prop := Claim7.holds Tryz.pinned (.plain (OpenSpec.upto valueRowsSpec)) valueRowsUptoCard
end Rows
end Go.Proofs.YtcfedmheblbdnaaGreatDoor
