/-
  No cell of these rows narrows 'for every input' (looked for: loops, veiled, ifaces, maps, wideKeys, modest, calm, conditions, laid).
  DERIVED. THE GIVEN ROWS OF THIS SEAT. 5 by the template 'for every input the law returns true; each argument reads behind the call as it read before'; 0 by the template 'total and deterministic' (their statements: YtfifiepbfnkelaaTotals.lean).
  GIVEN WITH THE SEED: the statements are not yours to turn. If you find one false, say at which input.
  Laid BY PROGRAM, IN A SANDBOX (cutbox-rows.mjs): the forced cells as the released guide's own fill.sh prints them over the translation f3078e1a976cde20… (all of the seat's roots in one cut). By AI agents, Wed Nov 11 2026. No macro, syntax, notation, axiom, sorry.
-/
import Derived.Test.YtfifiepbfnkelaaChecked
import GoSem.Claim
import GoSem.ClaimJoined
import GoSem.ClaimMapViews
import Derived.JoinedTies
import Derived.KernelRfl
namespace Go.Proofs.Ytfifiepbfnkelaa
/- THE CELL 'sum', in the pinned program and in every row, IS THE sha256 OF THE DUMP (.gsa) THAT YtfifiepbfnkelaaProg.lean LOADS. Nothing in Lean hashes anything: it is a label: what it is worth is what the hold of that sum in a sandbox is worth. -/
noncomputable def Try.pinned : Pinned := { name := "ytfifiepbfnkelaa", sum := "f3078e1a976cde209ad51376109bfd699f995d0a3812489417c8c357dd57f6ba", checked := Try.checked }
namespace Rows
def none {H : Type} : Left H := { results := [], args := [] }

/-- 'interlocklaw10.ModesTable': WHATEVER THE INPUT: true; the input reads as it did. -/
def modesTableSpec : ChangeSpec := { name := "modesTable", fn := fun _ => fun
  | [d1, d2] => { results := [.lit (.bool true)], args := [d1, d2] }
  | _ => none }
def modesTableRow : OpenClaim := { program := "ytfifiepbfnkelaa", sum := "f3078e1a976cde209ad51376109bfd699f995d0a3812489417c8c357dd57f6ba", func := "interlock/interlocklaw10.ModesTable", spec := "modesTable", apart := false }
def ModesTableSaid : Prop := modesTableRow.holds Try.pinned (OpenSpec.ofChange modesTableSpec)

/-- ITS FALSE NEIGHBOUR: 'it returns false'. Refute it at one input. -/
def modesTableWrong : ChangeSpec := { name := "modesTable", fn := fun _ => fun
  | [d1, d2] => { results := [.lit (.bool false)], args := [d1, d2] }
  | _ => none }
def ModesTableWrongFalsely : Prop := modesTableRow.holds Try.pinned (OpenSpec.ofChange modesTableWrong)

/-- 'interlocklaw10.ModesThings': WHATEVER THE INPUT: true; the input reads as it did. -/
def modesThingsSpec : ChangeSpec := { name := "modesThings", fn := fun _ => fun
  | [d] => { results := [.lit (.bool true)], args := [d] }
  | _ => none }
def modesThingsRow : OpenClaim := { program := "ytfifiepbfnkelaa", sum := "f3078e1a976cde209ad51376109bfd699f995d0a3812489417c8c357dd57f6ba", func := "interlock/interlocklaw10.ModesThings", spec := "modesThings", apart := false }
def ModesThingsSaid : Prop := modesThingsRow.holds Try.pinned (OpenSpec.ofChange modesThingsSpec)

/-- ITS FALSE NEIGHBOUR: 'it returns false'. Refute it at one input. -/
def modesThingsWrong : ChangeSpec := { name := "modesThings", fn := fun _ => fun
  | [d] => { results := [.lit (.bool false)], args := [d] }
  | _ => none }
def ModesThingsWrongFalsely : Prop := modesThingsRow.holds Try.pinned (OpenSpec.ofChange modesThingsWrong)

/-- 'interlocklaw10.ModesWays': WHATEVER THE INPUT: true; the input reads as it did. -/
def modesWaysSpec : ChangeSpec := { name := "modesWays", fn := fun _ => fun
  | [d1, d2, d3] => { results := [.lit (.bool true)], args := [d1, d2, d3] }
  | _ => none }
def modesWaysRow : OpenClaim := { program := "ytfifiepbfnkelaa", sum := "f3078e1a976cde209ad51376109bfd699f995d0a3812489417c8c357dd57f6ba", func := "interlock/interlocklaw10.ModesWays", spec := "modesWays", apart := false }
def ModesWaysSaid : Prop := modesWaysRow.holds Try.pinned (OpenSpec.ofChange modesWaysSpec)

/-- ITS FALSE NEIGHBOUR: 'it returns false'. Refute it at one input. -/
def modesWaysWrong : ChangeSpec := { name := "modesWays", fn := fun _ => fun
  | [d1, d2, d3] => { results := [.lit (.bool false)], args := [d1, d2, d3] }
  | _ => none }
def ModesWaysWrongFalsely : Prop := modesWaysRow.holds Try.pinned (OpenSpec.ofChange modesWaysWrong)

/-- 'interlocklaw10.ModesJoin': WHATEVER THE INPUT: true; the input reads as it did. -/
def modesJoinSpec : ChangeSpec := { name := "modesJoin", fn := fun _ => fun
  | [d1, d2, d3] => { results := [.lit (.bool true)], args := [d1, d2, d3] }
  | _ => none }
def modesJoinRow : OpenClaim := { program := "ytfifiepbfnkelaa", sum := "f3078e1a976cde209ad51376109bfd699f995d0a3812489417c8c357dd57f6ba", func := "interlock/interlocklaw10.ModesJoin", spec := "modesJoin", apart := false }
def ModesJoinSaid : Prop := modesJoinRow.holds Try.pinned (OpenSpec.ofChange modesJoinSpec)

/-- ITS FALSE NEIGHBOUR: 'it returns false'. Refute it at one input. -/
def modesJoinWrong : ChangeSpec := { name := "modesJoin", fn := fun _ => fun
  | [d1, d2, d3] => { results := [.lit (.bool false)], args := [d1, d2, d3] }
  | _ => none }
def ModesJoinWrongFalsely : Prop := modesJoinRow.holds Try.pinned (OpenSpec.ofChange modesJoinWrong)

/-- 'interlocklaw10.ModesAbove': WHATEVER THE INPUT: true; the input reads as it did. -/
def modesAboveSpec : ChangeSpec := { name := "modesAbove", fn := fun _ => fun
  | [d] => { results := [.lit (.bool true)], args := [d] }
  | _ => none }
def modesAboveRow : OpenClaim := { program := "ytfifiepbfnkelaa", sum := "f3078e1a976cde209ad51376109bfd699f995d0a3812489417c8c357dd57f6ba", func := "interlock/interlocklaw10.ModesAbove", spec := "modesAbove", apart := false }
def ModesAboveSaid : Prop := modesAboveRow.holds Try.pinned (OpenSpec.ofChange modesAboveSpec)

/-- ITS FALSE NEIGHBOUR: 'it returns false'. Refute it at one input. -/
def modesAboveWrong : ChangeSpec := { name := "modesAbove", fn := fun _ => fun
  | [d] => { results := [.lit (.bool false)], args := [d] }
  | _ => none }
def ModesAboveWrongFalsely : Prop := modesAboveRow.holds Try.pinned (OpenSpec.ofChange modesAboveWrong)

/- THE SECOND FORM. 'bulk': how many values and letters a reading holds, each counted each time it is reached (what is shared counts as often as it is met; a slice's spare places count too). A statement '..UptoSaid' is the law's where the arguments, and the package variables that the reading takes, are together of bulk at most 1048576: NARROWER than '..Said'. Prove '..Said' where nothing that the law and all that it calls make is longer than what came in: it says more and counts as full. Else prove '..UptoSaid'. A law counts once. -/
mutual
def uptoBulk {H : Type} : DataW H → Nat
  | .lit (.string bytes) => bytes.length + 1
  | .lit _ => 1
  | .nil => 1
  | .ptr d => uptoBulk d + 1
  | .slice elems spare => uptoBulkAll elems + uptoBulkAll spare + 1
  | .agg parts => uptoBulkAll parts + 1
  | .iface _ d => uptoBulk d + 1
  | .map entries => uptoBulkEntries entries + 1
  | .held _ => 1
def uptoBulkAll {H : Type} : List (DataW H) → Nat
  | [] => 0
  | d :: r => uptoBulk d + uptoBulkAll r
def uptoBulkEntries {H : Type} : List (Lit × DataW H) → Nat
  | [] => 0
  | x :: r => uptoBulkEntry x + uptoBulkEntries r
def uptoBulkEntry {H : Type} : Lit × DataW H → Nat
  | (.string bytes, d) => bytes.length + uptoBulk d + 1
  | (_, d) => uptoBulk d + 1
 end
def uptoSmall : (H : Type) → List (DataW H) → Bool := fun _ ds => decide (uptoBulkAll ds ≤ 1048576)
def OpenSpec.upto (s : _root_.Go.ChangeSpec) : _root_.Go.OpenSpec := { _root_.Go.OpenSpec.ofChange s with cond := some uptoSmall }

/-- 'interlocklaw10.ModesTable', WHERE WHAT IT READS IS OF BULK AT MOST 1048576: true; the input reads as it did. -/
def modesTableUptoRow : OpenClaim := { program := "ytfifiepbfnkelaa", sum := "f3078e1a976cde209ad51376109bfd699f995d0a3812489417c8c357dd57f6ba", func := "interlock/interlocklaw10.ModesTable", spec := "modesTable", apart := false, narrowed := true }
def ModesTableUptoSaid : Prop := modesTableUptoRow.holds Try.pinned (OpenSpec.upto modesTableSpec)

/-- 'interlocklaw10.ModesThings', WHERE WHAT IT READS IS OF BULK AT MOST 1048576: true; the input reads as it did. -/
def modesThingsUptoRow : OpenClaim := { program := "ytfifiepbfnkelaa", sum := "f3078e1a976cde209ad51376109bfd699f995d0a3812489417c8c357dd57f6ba", func := "interlock/interlocklaw10.ModesThings", spec := "modesThings", apart := false, narrowed := true }
def ModesThingsUptoSaid : Prop := modesThingsUptoRow.holds Try.pinned (OpenSpec.upto modesThingsSpec)

/-- 'interlocklaw10.ModesWays', WHERE WHAT IT READS IS OF BULK AT MOST 1048576: true; the input reads as it did. -/
def modesWaysUptoRow : OpenClaim := { program := "ytfifiepbfnkelaa", sum := "f3078e1a976cde209ad51376109bfd699f995d0a3812489417c8c357dd57f6ba", func := "interlock/interlocklaw10.ModesWays", spec := "modesWays", apart := false, narrowed := true }
def ModesWaysUptoSaid : Prop := modesWaysUptoRow.holds Try.pinned (OpenSpec.upto modesWaysSpec)

/-- 'interlocklaw10.ModesJoin', WHERE WHAT IT READS IS OF BULK AT MOST 1048576: true; the input reads as it did. -/
def modesJoinUptoRow : OpenClaim := { program := "ytfifiepbfnkelaa", sum := "f3078e1a976cde209ad51376109bfd699f995d0a3812489417c8c357dd57f6ba", func := "interlock/interlocklaw10.ModesJoin", spec := "modesJoin", apart := false, narrowed := true }
def ModesJoinUptoSaid : Prop := modesJoinUptoRow.holds Try.pinned (OpenSpec.upto modesJoinSpec)

/-- 'interlocklaw10.ModesAbove', WHERE WHAT IT READS IS OF BULK AT MOST 1048576: true; the input reads as it did. -/
def modesAboveUptoRow : OpenClaim := { program := "ytfifiepbfnkelaa", sum := "f3078e1a976cde209ad51376109bfd699f995d0a3812489417c8c357dd57f6ba", func := "interlock/interlocklaw10.ModesAbove", spec := "modesAbove", apart := false, narrowed := true }
def ModesAboveUptoSaid : Prop := modesAboveUptoRow.holds Try.pinned (OpenSpec.upto modesAboveSpec)

end Rows
end Go.Proofs.Ytfifiepbfnkelaa
