/-
  No cell of these rows narrows 'for every input' (looked for: loops, veiled, ifaces, maps, wideKeys, modest, calm, conditions, laid).
  DERIVED. THE GIVEN ROWS OF THIS SEAT. 5 by the template 'for every input the law returns true; each argument reads behind the call as it read before'; 0 by the template 'total and deterministic' (their statements: YtblliolkgkgppaaTotals.lean).
  GIVEN WITH THE SEED: the statements are not yours to turn. If you find one false, say at which input.
  Laid BY PROGRAM, IN A SANDBOX (cutbox-rows.mjs): the forced cells as the released guide's own fill.sh prints them over the translation 8f75ed11e599d648… (all of the seat's roots in one cut). By AI agents, Wed Nov 11 2026. No macro, syntax, notation, axiom, sorry.
-/
import Derived.Test.YtblliolkgkgppaaChecked
import GoSem.Claim
import GoSem.ClaimJoined
import GoSem.ClaimMapViews
import Derived.JoinedTies
import Derived.KernelRfl
namespace Go.Proofs.Ytblliolkgkgppaa
/- THE CELL 'sum', in the pinned program and in every row, IS THE sha256 OF THE DUMP (.gsa) THAT YtblliolkgkgppaaProg.lean LOADS. Nothing in Lean hashes anything: it is a label: what it is worth is what the hold of that sum in a sandbox is worth. -/
noncomputable def Try.pinned : Pinned := { name := "ytblliolkgkgppaa", sum := "8f75ed11e599d64842e4a2bcc4396b02786705e4d3c22cba8ccaafb9224f8bad", checked := Try.checked }
namespace Rows
def none {H : Type} : Left H := { results := [], args := [] }

/-- 'interlocklaw06.PageOrder': WHATEVER THE INPUT: true; the input reads as it did. -/
def pageOrderSpec : ChangeSpec := { name := "pageOrder", fn := fun _ => fun
  | [d] => { results := [.lit (.bool true)], args := [d] }
  | _ => none }
def pageOrderRow : OpenClaim := { program := "ytblliolkgkgppaa", sum := "8f75ed11e599d64842e4a2bcc4396b02786705e4d3c22cba8ccaafb9224f8bad", func := "interlock/interlocklaw06.PageOrder", spec := "pageOrder", unfollowed := true, recurses := true, apart := false }
def PageOrderSaid : Prop := pageOrderRow.holds Try.pinned (OpenSpec.ofChange pageOrderSpec)

/-- ITS FALSE NEIGHBOUR: 'it returns false'. Refute it at one input. -/
def pageOrderWrong : ChangeSpec := { name := "pageOrder", fn := fun _ => fun
  | [d] => { results := [.lit (.bool false)], args := [d] }
  | _ => none }
def PageOrderWrongFalsely : Prop := pageOrderRow.holds Try.pinned (OpenSpec.ofChange pageOrderWrong)

/-- 'interlocklaw06.PageRoom': WHATEVER THE INPUT: true; the input reads as it did. -/
def pageRoomSpec : ChangeSpec := { name := "pageRoom", fn := fun _ => fun
  | [d] => { results := [.lit (.bool true)], args := [d] }
  | _ => none }
def pageRoomRow : OpenClaim := { program := "ytblliolkgkgppaa", sum := "8f75ed11e599d64842e4a2bcc4396b02786705e4d3c22cba8ccaafb9224f8bad", func := "interlock/interlocklaw06.PageRoom", spec := "pageRoom", unfollowed := true, recurses := true, apart := false }
def PageRoomSaid : Prop := pageRoomRow.holds Try.pinned (OpenSpec.ofChange pageRoomSpec)

/-- ITS FALSE NEIGHBOUR: 'it returns false'. Refute it at one input. -/
def pageRoomWrong : ChangeSpec := { name := "pageRoom", fn := fun _ => fun
  | [d] => { results := [.lit (.bool false)], args := [d] }
  | _ => none }
def PageRoomWrongFalsely : Prop := pageRoomRow.holds Try.pinned (OpenSpec.ofChange pageRoomWrong)

/-- 'interlocklaw06.PageKeeps': WHATEVER THE INPUT: true; the input reads as it did. -/
def pageKeepsSpec : ChangeSpec := { name := "pageKeeps", fn := fun _ => fun
  | [d1, d2, d3] => { results := [.lit (.bool true)], args := [d1, d2, d3] }
  | _ => none }
def pageKeepsRow : OpenClaim := { program := "ytblliolkgkgppaa", sum := "8f75ed11e599d64842e4a2bcc4396b02786705e4d3c22cba8ccaafb9224f8bad", func := "interlock/interlocklaw06.PageKeeps", spec := "pageKeeps", unfollowed := true, recurses := true, apart := false }
def PageKeepsSaid : Prop := pageKeepsRow.holds Try.pinned (OpenSpec.ofChange pageKeepsSpec)

/-- ITS FALSE NEIGHBOUR: 'it returns false'. Refute it at one input. -/
def pageKeepsWrong : ChangeSpec := { name := "pageKeeps", fn := fun _ => fun
  | [d1, d2, d3] => { results := [.lit (.bool false)], args := [d1, d2, d3] }
  | _ => none }
def PageKeepsWrongFalsely : Prop := pageKeepsRow.holds Try.pinned (OpenSpec.ofChange pageKeepsWrong)

/-- 'interlocklaw06.PageAsks': WHATEVER THE INPUT: true; the input reads as it did. -/
def pageAsksSpec : ChangeSpec := { name := "pageAsks", fn := fun _ => fun
  | [d1, d2, d3] => { results := [.lit (.bool true)], args := [d1, d2, d3] }
  | _ => none }
def pageAsksRow : OpenClaim := { program := "ytblliolkgkgppaa", sum := "8f75ed11e599d64842e4a2bcc4396b02786705e4d3c22cba8ccaafb9224f8bad", func := "interlock/interlocklaw06.PageAsks", spec := "pageAsks", unfollowed := true, recurses := true, apart := false }
def PageAsksSaid : Prop := pageAsksRow.holds Try.pinned (OpenSpec.ofChange pageAsksSpec)

/-- ITS FALSE NEIGHBOUR: 'it returns false'. Refute it at one input. -/
def pageAsksWrong : ChangeSpec := { name := "pageAsks", fn := fun _ => fun
  | [d1, d2, d3] => { results := [.lit (.bool false)], args := [d1, d2, d3] }
  | _ => none }
def PageAsksWrongFalsely : Prop := pageAsksRow.holds Try.pinned (OpenSpec.ofChange pageAsksWrong)

/-- 'interlocklaw06.PageCalls': WHATEVER THE INPUT: true; the input reads as it did. -/
def pageCallsSpec : ChangeSpec := { name := "pageCalls", fn := fun _ => fun
  | [d] => { results := [.lit (.bool true)], args := [d] }
  | _ => none }
def pageCallsRow : OpenClaim := { program := "ytblliolkgkgppaa", sum := "8f75ed11e599d64842e4a2bcc4396b02786705e4d3c22cba8ccaafb9224f8bad", func := "interlock/interlocklaw06.PageCalls", spec := "pageCalls", unfollowed := true, recurses := true, apart := false }
def PageCallsSaid : Prop := pageCallsRow.holds Try.pinned (OpenSpec.ofChange pageCallsSpec)

/-- ITS FALSE NEIGHBOUR: 'it returns false'. Refute it at one input. -/
def pageCallsWrong : ChangeSpec := { name := "pageCalls", fn := fun _ => fun
  | [d] => { results := [.lit (.bool false)], args := [d] }
  | _ => none }
def PageCallsWrongFalsely : Prop := pageCallsRow.holds Try.pinned (OpenSpec.ofChange pageCallsWrong)

/- THE SECOND FORM. 'bulk': how many values and letters a reading holds, each counted each time it is reached (what is shared counts as often as it is met; a slice's spare places count too). A statement '..UptoSaid' is the law's where the arguments, and the package variables that the reading takes, are together of bulk at most 1048576: NARROWER than '..Said'. Prove '..Said' where nothing that the law and all that it calls make is longer than what came in: it says more and counts as full. Else prove '..UptoSaid'. A law counts once. -/
mutual
def uptoBulk {H : Type} : DataW H → Nat
  | .lit (.string bytes) => bytes.length + 1
  | .lit _ => 1
  | .nil => 1
  | .ptr d => uptoBulk d + 1
  | .slice elems spare => uptoBulkAll elems + uptoBulkAll spare + 1
  | .agg parts => uptoBulkAll parts + 1
  | .iface _ d => uptoBulk d + 1
  | .map entries => uptoBulkEntries entries + 1
  | .held _ => 1
def uptoBulkAll {H : Type} : List (DataW H) → Nat
  | [] => 0
  | d :: r => uptoBulk d + uptoBulkAll r
def uptoBulkEntries {H : Type} : List (Lit × DataW H) → Nat
  | [] => 0
  | x :: r => uptoBulkEntry x + uptoBulkEntries r
def uptoBulkEntry {H : Type} : Lit × DataW H → Nat
  | (.string bytes, d) => bytes.length + uptoBulk d + 1
  | (_, d) => uptoBulk d + 1
 end
def uptoSmall : (H : Type) → List (DataW H) → Bool := fun _ ds => decide (uptoBulkAll ds ≤ 1048576)
def OpenSpec.upto (s : _root_.Go.ChangeSpec) : _root_.Go.OpenSpec := { _root_.Go.OpenSpec.ofChange s with cond := some uptoSmall }

/-- 'interlocklaw06.PageOrder', WHERE WHAT IT READS IS OF BULK AT MOST 1048576: true; the input reads as it did. -/
def pageOrderUptoRow : OpenClaim := { program := "ytblliolkgkgppaa", sum := "8f75ed11e599d64842e4a2bcc4396b02786705e4d3c22cba8ccaafb9224f8bad", func := "interlock/interlocklaw06.PageOrder", spec := "pageOrder", unfollowed := true, recurses := true, apart := false, narrowed := true }
def PageOrderUptoSaid : Prop := pageOrderUptoRow.holds Try.pinned (OpenSpec.upto pageOrderSpec)

/-- 'interlocklaw06.PageRoom', WHERE WHAT IT READS IS OF BULK AT MOST 1048576: true; the input reads as it did. -/
def pageRoomUptoRow : OpenClaim := { program := "ytblliolkgkgppaa", sum := "8f75ed11e599d64842e4a2bcc4396b02786705e4d3c22cba8ccaafb9224f8bad", func := "interlock/interlocklaw06.PageRoom", spec := "pageRoom", unfollowed := true, recurses := true, apart := false, narrowed := true }
def PageRoomUptoSaid : Prop := pageRoomUptoRow.holds Try.pinned (OpenSpec.upto pageRoomSpec)

/-- 'interlocklaw06.PageKeeps', WHERE WHAT IT READS IS OF BULK AT MOST 1048576: true; the input reads as it did. -/
def pageKeepsUptoRow : OpenClaim := { program := "ytblliolkgkgppaa", sum := "8f75ed11e599d64842e4a2bcc4396b02786705e4d3c22cba8ccaafb9224f8bad", func := "interlock/interlocklaw06.PageKeeps", spec := "pageKeeps", unfollowed := true, recurses := true, apart := false, narrowed := true }
def PageKeepsUptoSaid : Prop := pageKeepsUptoRow.holds Try.pinned (OpenSpec.upto pageKeepsSpec)

/-- 'interlocklaw06.PageAsks', WHERE WHAT IT READS IS OF BULK AT MOST 1048576: true; the input reads as it did. -/
def pageAsksUptoRow : OpenClaim := { program := "ytblliolkgkgppaa", sum := "8f75ed11e599d64842e4a2bcc4396b02786705e4d3c22cba8ccaafb9224f8bad", func := "interlock/interlocklaw06.PageAsks", spec := "pageAsks", unfollowed := true, recurses := true, apart := false, narrowed := true }
def PageAsksUptoSaid : Prop := pageAsksUptoRow.holds Try.pinned (OpenSpec.upto pageAsksSpec)

/-- 'interlocklaw06.PageCalls', WHERE WHAT IT READS IS OF BULK AT MOST 1048576: true; the input reads as it did. -/
def pageCallsUptoRow : OpenClaim := { program := "ytblliolkgkgppaa", sum := "8f75ed11e599d64842e4a2bcc4396b02786705e4d3c22cba8ccaafb9224f8bad", func := "interlock/interlocklaw06.PageCalls", spec := "pageCalls", unfollowed := true, recurses := true, apart := false, narrowed := true }
def PageCallsUptoSaid : Prop := pageCallsUptoRow.holds Try.pinned (OpenSpec.upto pageCallsSpec)

end Rows
end Go.Proofs.Ytblliolkgkgppaa
