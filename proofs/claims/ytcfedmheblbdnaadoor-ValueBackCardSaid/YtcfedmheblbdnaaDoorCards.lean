/-
  DERIVED. GIVEN WITH THE SEED: THE CARDS: each row of YtcfedmheblbdnaaDoorRows.lean that lists a variable, with what it lists TIED to the program's text (the seventh form; the later family's looks); each row that meets fmt, with fmt's text TOLD by the authors' own Lean function (tested against real Go, not proved from fmt's source: count such statements apart). THE CARD IS WHAT COUNTS. Prove the row's statement (the work); the ties are given (YtcfedmheblbdnaaDoorTie.lean); close each card by the builder's one call (the guide's Derived/Test/ToyasCard.lean, 'card_holds'). Laid BY PROGRAM, IN A SANDBOX (cutbox-door.mjs). By AI agents, Wed Nov 11 2026. No macro, syntax, notation, axiom, sorry.
-/
import Derived.Test.YtcfedmheblbdnaaDoorRows
import GoSem.ClaimSeven
namespace Go.Proofs.YtcfedmheblbdnaaDoor
namespace Rows

/-- THE TIED CARD OF 'interlocklaw04.ValueReads'. -/
def valueReadsCard : Claim7 := { stood := { row := valueReadsRow, standIns := [], harness := (true, "73fab2f33d90ac5f165365957cb75156d9e6d3326e83dd19814a21a3d929b8df"), looks := true }, kinds := [], alts := [], laidByText := true, laidKinds := [.data, .data, .data, .sentinel, .sentinel], laidTests := true, laidLooks := .later }
def ValueReadsCardSaid : Prop := Claim7.holds Tryd.pinned (.plain (OpenSpec.ofChange valueReadsSpec)) valueReadsCard

/-- THE TIED CARD OF 'interlocklaw04.ValueShown'. -/
def valueShownCard : Claim7 := { stood := { row := valueShownRow, standIns := [], harness := (true, "73fab2f33d90ac5f165365957cb75156d9e6d3326e83dd19814a21a3d929b8df"), looks := true }, kinds := [], alts := [], laidByText := true, laidKinds := [.data, .data, .data, .sentinel, .sentinel], laidTests := true, laidLooks := .later }
def ValueShownCardSaid : Prop := Claim7.holds Tryd.pinned (.plain (OpenSpec.ofChange valueShownSpec)) valueShownCard

/-- THE TIED CARD OF 'interlocklaw04.ValueFits'. -/
def valueFitsCard : Claim7 := { stood := { row := valueFitsRow, standIns := [], harness := (true, "73fab2f33d90ac5f165365957cb75156d9e6d3326e83dd19814a21a3d929b8df"), looks := true }, kinds := [], alts := [], laidByText := true, laidKinds := [.data, .data, .data, .sentinel, .sentinel], laidTests := true, laidLooks := .later }
def ValueFitsCardSaid : Prop := Claim7.holds Tryd.pinned (.plain (OpenSpec.ofChange valueFitsSpec)) valueFitsCard

/-- THE TIED CARD OF 'interlocklaw04.ValueOrder'. -/
def valueOrderCard : Claim7 := { stood := { row := valueOrderRow, standIns := [], harness := (true, "73fab2f33d90ac5f165365957cb75156d9e6d3326e83dd19814a21a3d929b8df"), looks := true }, kinds := [], alts := [], laidByText := true, laidKinds := [.data, .data, .data, .sentinel, .sentinel], laidTests := true, laidLooks := .later }
def ValueOrderCardSaid : Prop := Claim7.holds Tryd.pinned (.plain (OpenSpec.ofChange valueOrderSpec)) valueOrderCard

/-- THE TIED CARD OF 'interlocklaw04.ValueAsks'. -/
def valueAsksCard : Claim7 := { stood := { row := valueAsksRow, standIns := [], harness := (true, "73fab2f33d90ac5f165365957cb75156d9e6d3326e83dd19814a21a3d929b8df"), looks := true }, kinds := [], alts := [], laidByText := true, laidKinds := [.data, .data, .data, .sentinel, .sentinel], laidTests := true, laidLooks := .later }
def ValueAsksCardSaid : Prop := Claim7.holds Tryd.pinned (.plain (OpenSpec.ofChange valueAsksSpec)) valueAsksCard

/-- THE TIED CARD OF 'interlocklaw04.ValueBack'. -/
def valueBackCard : Claim7 := { stood := { row := valueBackRow, standIns := [], harness := (true, "73fab2f33d90ac5f165365957cb75156d9e6d3326e83dd19814a21a3d929b8df"), looks := true }, kinds := [], alts := [], laidByText := true, laidKinds := [.data, .data, .data, .sentinel, .sentinel], laidTests := true, laidLooks := .later }
def ValueBackCardSaid : Prop := Claim7.holds Tryd.pinned (.plain (OpenSpec.ofChange valueBackSpec)) valueBackCard

/-- THE SECOND FORM's CARD OF 'interlocklaw04.ValueReads'. -/
def valueReadsUptoCard : Claim7 := { stood := { row := valueReadsUptoRow, standIns := [], harness := (true, "73fab2f33d90ac5f165365957cb75156d9e6d3326e83dd19814a21a3d929b8df"), looks := true }, kinds := [], alts := [], laidByText := true, laidKinds := [.data, .data, .data, .sentinel, .sentinel], laidTests := true, laidLooks := .later }
def ValueReadsUptoCardSaid : Prop := Claim7.holds Tryd.pinned (.plain (OpenSpec.upto valueReadsSpec)) valueReadsUptoCard

/-- THE SECOND FORM's CARD OF 'interlocklaw04.ValueShown'. -/
def valueShownUptoCard : Claim7 := { stood := { row := valueShownUptoRow, standIns := [], harness := (true, "73fab2f33d90ac5f165365957cb75156d9e6d3326e83dd19814a21a3d929b8df"), looks := true }, kinds := [], alts := [], laidByText := true, laidKinds := [.data, .data, .data, .sentinel, .sentinel], laidTests := true, laidLooks := .later }
def ValueShownUptoCardSaid : Prop := Claim7.holds Tryd.pinned (.plain (OpenSpec.upto valueShownSpec)) valueShownUptoCard

/-- THE SECOND FORM's CARD OF 'interlocklaw04.ValueFits'. -/
def valueFitsUptoCard : Claim7 := { stood := { row := valueFitsUptoRow, standIns := [], harness := (true, "73fab2f33d90ac5f165365957cb75156d9e6d3326e83dd19814a21a3d929b8df"), looks := true }, kinds := [], alts := [], laidByText := true, laidKinds := [.data, .data, .data, .sentinel, .sentinel], laidTests := true, laidLooks := .later }
def ValueFitsUptoCardSaid : Prop := Claim7.holds Tryd.pinned (.plain (OpenSpec.upto valueFitsSpec)) valueFitsUptoCard

/-- THE SECOND FORM's CARD OF 'interlocklaw04.ValueOrder'. -/
def valueOrderUptoCard : Claim7 := { stood := { row := valueOrderUptoRow, standIns := [], harness := (true, "73fab2f33d90ac5f165365957cb75156d9e6d3326e83dd19814a21a3d929b8df"), looks := true }, kinds := [], alts := [], laidByText := true, laidKinds := [.data, .data, .data, .sentinel, .sentinel], laidTests := true, laidLooks := .later }
def ValueOrderUptoCardSaid : Prop := Claim7.holds Tryd.pinned (.plain (OpenSpec.upto valueOrderSpec)) valueOrderUptoCard

/-- THE SECOND FORM's CARD OF 'interlocklaw04.ValueAsks'. -/
def valueAsksUptoCard : Claim7 := { stood := { row := valueAsksUptoRow, standIns := [], harness := (true, "73fab2f33d90ac5f165365957cb75156d9e6d3326e83dd19814a21a3d929b8df"), looks := true }, kinds := [], alts := [], laidByText := true, laidKinds := [.data, .data, .data, .sentinel, .sentinel], laidTests := true, laidLooks := .later }
def ValueAsksUptoCardSaid : Prop := Claim7.holds Tryd.pinned (.plain (OpenSpec.upto valueAsksSpec)) valueAsksUptoCard

/-- THE SECOND FORM's CARD OF 'interlocklaw04.ValueBack'. -/
def valueBackUptoCard : Claim7 := { stood := { row := valueBackUptoRow, standIns := [], harness := (true, "73fab2f33d90ac5f165365957cb75156d9e6d3326e83dd19814a21a3d929b8df"), looks := true }, kinds := [], alts := [], laidByText := true, laidKinds := [.data, .data, .data, .sentinel, .sentinel], laidTests := true, laidLooks := .later }
def ValueBackUptoCardSaid : Prop := Claim7.holds Tryd.pinned (.plain (OpenSpec.upto valueBackSpec)) valueBackUptoCard
end Rows
end Go.Proofs.YtcfedmheblbdnaaDoor
