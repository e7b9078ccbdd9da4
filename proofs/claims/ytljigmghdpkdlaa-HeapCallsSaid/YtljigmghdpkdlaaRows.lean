/-
  No cell of these rows narrows 'for every input' (looked for: loops, veiled, ifaces, maps, wideKeys, modest, calm, conditions, laid).
  DERIVED. THE GIVEN ROWS OF THIS SEAT. 6 by the template 'for every input the law returns true; each argument reads behind the call as it read before'; 0 by the template 'total and deterministic' (their statements: YtljigmghdpkdlaaTotals.lean).
  GIVEN WITH THE SEED: the statements are not yours to turn. If you find one false, say at which input.
  Laid BY PROGRAM, IN A SANDBOX (cutbox-rows.mjs): the forced cells as the released guide's own fill.sh prints them over the translation 967a15075af0a37b… (all of the seat's roots in one cut). By AI agents, Wed Nov 11 2026. No macro, syntax, notation, axiom, sorry.
-/
import Derived.Test.YtljigmghdpkdlaaChecked
import GoSem.Claim
import GoSem.ClaimJoined
import GoSem.ClaimMapViews
import Derived.JoinedTies
import Derived.KernelRfl
namespace Go.Proofs.Ytljigmghdpkdlaa
/- THE CELL 'sum', in the pinned program and in every row, IS THE sha256 OF THE DUMP (.gsa) THAT YtljigmghdpkdlaaProg.lean LOADS. Nothing in Lean hashes anything: it is a label: what it is worth is what the hold of that sum in a sandbox is worth. -/
noncomputable def Try.pinned : Pinned := { name := "ytljigmghdpkdlaa", sum := "967a15075af0a37b02621485ee1002f0e9d50089f4b3fb32808c349abde28c46", checked := Try.checked }
namespace Rows
def none {H : Type} : Left H := { results := [], args := [] }

/-- 'interlocklaw07.HeapKeeps': WHATEVER THE INPUT: true; the input reads as it did. -/
def heapKeepsSpec : ChangeSpec := { name := "heapKeeps", fn := fun _ => fun
  | [d1, d2] => { results := [.lit (.bool true)], args := [d1, d2] }
  | _ => none }
def heapKeepsRow : OpenClaim := { program := "ytljigmghdpkdlaa", sum := "967a15075af0a37b02621485ee1002f0e9d50089f4b3fb32808c349abde28c46", func := "interlock/interlocklaw07.HeapKeeps", spec := "heapKeeps", unfollowed := true, recurses := true, plainKeys := false, apart := false }
def HeapKeepsSaid : Prop := heapKeepsRow.holds Try.pinned (OpenSpec.ofChange heapKeepsSpec)

/-- ITS FALSE NEIGHBOUR: 'it returns false'. Refute it at one input. -/
def heapKeepsWrong : ChangeSpec := { name := "heapKeeps", fn := fun _ => fun
  | [d1, d2] => { results := [.lit (.bool false)], args := [d1, d2] }
  | _ => none }
def HeapKeepsWrongFalsely : Prop := heapKeepsRow.holds Try.pinned (OpenSpec.ofChange heapKeepsWrong)

/-- 'interlocklaw07.HeapFirst': WHATEVER THE INPUT: true; the input reads as it did. -/
def heapFirstSpec : ChangeSpec := { name := "heapFirst", fn := fun _ => fun
  | [d1, d2] => { results := [.lit (.bool true)], args := [d1, d2] }
  | _ => none }
def heapFirstRow : OpenClaim := { program := "ytljigmghdpkdlaa", sum := "967a15075af0a37b02621485ee1002f0e9d50089f4b3fb32808c349abde28c46", func := "interlock/interlocklaw07.HeapFirst", spec := "heapFirst", unfollowed := true, recurses := true, plainKeys := false, apart := false }
def HeapFirstSaid : Prop := heapFirstRow.holds Try.pinned (OpenSpec.ofChange heapFirstSpec)

/-- ITS FALSE NEIGHBOUR: 'it returns false'. Refute it at one input. -/
def heapFirstWrong : ChangeSpec := { name := "heapFirst", fn := fun _ => fun
  | [d1, d2] => { results := [.lit (.bool false)], args := [d1, d2] }
  | _ => none }
def HeapFirstWrongFalsely : Prop := heapFirstRow.holds Try.pinned (OpenSpec.ofChange heapFirstWrong)

/-- 'interlocklaw07.HeapUndo': WHATEVER THE INPUT: true; the input reads as it did. -/
def heapUndoSpec : ChangeSpec := { name := "heapUndo", fn := fun _ => fun
  | [d1, d2] => { results := [.lit (.bool true)], args := [d1, d2] }
  | _ => none }
def heapUndoRow : OpenClaim := { program := "ytljigmghdpkdlaa", sum := "967a15075af0a37b02621485ee1002f0e9d50089f4b3fb32808c349abde28c46", func := "interlock/interlocklaw07.HeapUndo", spec := "heapUndo", unfollowed := true, recurses := true, plainKeys := false, apart := false }
def HeapUndoSaid : Prop := heapUndoRow.holds Try.pinned (OpenSpec.ofChange heapUndoSpec)

/-- ITS FALSE NEIGHBOUR: 'it returns false'. Refute it at one input. -/
def heapUndoWrong : ChangeSpec := { name := "heapUndo", fn := fun _ => fun
  | [d1, d2] => { results := [.lit (.bool false)], args := [d1, d2] }
  | _ => none }
def HeapUndoWrongFalsely : Prop := heapUndoRow.holds Try.pinned (OpenSpec.ofChange heapUndoWrong)

/-- 'interlocklaw07.HeapLoads': WHATEVER THE INPUT: true; the input reads as it did. -/
def heapLoadsSpec : ChangeSpec := { name := "heapLoads", fn := fun _ => fun
  | [d1, d2] => { results := [.lit (.bool true)], args := [d1, d2] }
  | _ => none }
def heapLoadsRow : OpenClaim := { program := "ytljigmghdpkdlaa", sum := "967a15075af0a37b02621485ee1002f0e9d50089f4b3fb32808c349abde28c46", func := "interlock/interlocklaw07.HeapLoads", spec := "heapLoads", unfollowed := true, recurses := true, plainKeys := false, apart := false }
def HeapLoadsSaid : Prop := heapLoadsRow.holds Try.pinned (OpenSpec.ofChange heapLoadsSpec)

/-- ITS FALSE NEIGHBOUR: 'it returns false'. Refute it at one input. -/
def heapLoadsWrong : ChangeSpec := { name := "heapLoads", fn := fun _ => fun
  | [d1, d2] => { results := [.lit (.bool false)], args := [d1, d2] }
  | _ => none }
def HeapLoadsWrongFalsely : Prop := heapLoadsRow.holds Try.pinned (OpenSpec.ofChange heapLoadsWrong)

/-- 'interlocklaw07.HeapCalls': WHATEVER THE INPUT: true; the input reads as it did. -/
def heapCallsSpec : ChangeSpec := { name := "heapCalls", fn := fun _ => fun
  | [d] => { results := [.lit (.bool true)], args := [d] }
  | _ => none }
def heapCallsRow : OpenClaim := { program := "ytljigmghdpkdlaa", sum := "967a15075af0a37b02621485ee1002f0e9d50089f4b3fb32808c349abde28c46", func := "interlock/interlocklaw07.HeapCalls", spec := "heapCalls", unfollowed := true, recurses := true, plainKeys := false, apart := false }
def HeapCallsSaid : Prop := heapCallsRow.holds Try.pinned (OpenSpec.ofChange heapCallsSpec)

/-- ITS FALSE NEIGHBOUR: 'it returns false'. Refute it at one input. -/
def heapCallsWrong : ChangeSpec := { name := "heapCalls", fn := fun _ => fun
  | [d] => { results := [.lit (.bool false)], args := [d] }
  | _ => none }
def HeapCallsWrongFalsely : Prop := heapCallsRow.holds Try.pinned (OpenSpec.ofChange heapCallsWrong)

/-- 'interlocklaw07.HeapAfter': WHATEVER THE INPUT: true; the input reads as it did. -/
def heapAfterSpec : ChangeSpec := { name := "heapAfter", fn := fun _ => fun
  | [d1, d2] => { results := [.lit (.bool true)], args := [d1, d2] }
  | _ => none }
def heapAfterRow : OpenClaim := { program := "ytljigmghdpkdlaa", sum := "967a15075af0a37b02621485ee1002f0e9d50089f4b3fb32808c349abde28c46", func := "interlock/interlocklaw07.HeapAfter", spec := "heapAfter", unfollowed := true, recurses := true, plainKeys := false, apart := false }
def HeapAfterSaid : Prop := heapAfterRow.holds Try.pinned (OpenSpec.ofChange heapAfterSpec)

/-- ITS FALSE NEIGHBOUR: 'it returns false'. Refute it at one input. -/
def heapAfterWrong : ChangeSpec := { name := "heapAfter", fn := fun _ => fun
  | [d1, d2] => { results := [.lit (.bool false)], args := [d1, d2] }
  | _ => none }
def HeapAfterWrongFalsely : Prop := heapAfterRow.holds Try.pinned (OpenSpec.ofChange heapAfterWrong)

/- THE SECOND FORM. 'bulk': how many values and letters a reading holds, each counted each time it is reached (what is shared counts as often as it is met; a slice's spare places count too). A statement '..UptoSaid' is the law's where the arguments, and the package variables that the reading takes, are together of bulk at most 1048576: NARROWER than '..Said'. Prove '..Said' where nothing that the law and all that it calls make is longer than what came in: it says more and counts as full. Else prove '..UptoSaid'. A law counts once. -/
mutual
def uptoBulk {H : Type} : DataW H → Nat
  | .lit (.string bytes) => bytes.length + 1
  | .lit _ => 1
  | .nil => 1
  | .ptr d => uptoBulk d + 1
  | .slice elems spare => uptoBulkAll elems + uptoBulkAll spare + 1
  | .agg parts => uptoBulkAll parts + 1
  | .iface _ d => uptoBulk d + 1
  | .map entries => uptoBulkEntries entries + 1
  | .held _ => 1
def uptoBulkAll {H : Type} : List (DataW H) → Nat
  | [] => 0
  | d :: r => uptoBulk d + uptoBulkAll r
def uptoBulkEntries {H : Type} : List (Lit × DataW H) → Nat
  | [] => 0
  | x :: r => uptoBulkEntry x + uptoBulkEntries r
def uptoBulkEntry {H : Type} : Lit × DataW H → Nat
  | (.string bytes, d) => bytes.length + uptoBulk d + 1
  | (_, d) => uptoBulk d + 1
 end
def uptoSmall : (H : Type) → List (DataW H) → Bool := fun _ ds => decide (uptoBulkAll ds ≤ 1048576)
def OpenSpec.upto (s : _root_.Go.ChangeSpec) : _root_.Go.OpenSpec := { _root_.Go.OpenSpec.ofChange s with cond := some uptoSmall }

/-- 'interlocklaw07.HeapKeeps', WHERE WHAT IT READS IS OF BULK AT MOST 1048576: true; the input reads as it did. -/
def heapKeepsUptoRow : OpenClaim := { program := "ytljigmghdpkdlaa", sum := "967a15075af0a37b02621485ee1002f0e9d50089f4b3fb32808c349abde28c46", func := "interlock/interlocklaw07.HeapKeeps", spec := "heapKeeps", unfollowed := true, recurses := true, plainKeys := false, apart := false, narrowed := true }
def HeapKeepsUptoSaid : Prop := heapKeepsUptoRow.holds Try.pinned (OpenSpec.upto heapKeepsSpec)

/-- 'interlocklaw07.HeapFirst', WHERE WHAT IT READS IS OF BULK AT MOST 1048576: true; the input reads as it did. -/
def heapFirstUptoRow : OpenClaim := { program := "ytljigmghdpkdlaa", sum := "967a15075af0a37b02621485ee1002f0e9d50089f4b3fb32808c349abde28c46", func := "interlock/interlocklaw07.HeapFirst", spec := "heapFirst", unfollowed := true, recurses := true, plainKeys := false, apart := false, narrowed := true }
def HeapFirstUptoSaid : Prop := heapFirstUptoRow.holds Try.pinned (OpenSpec.upto heapFirstSpec)

/-- 'interlocklaw07.HeapUndo', WHERE WHAT IT READS IS OF BULK AT MOST 1048576: true; the input reads as it did. -/
def heapUndoUptoRow : OpenClaim := { program := "ytljigmghdpkdlaa", sum := "967a15075af0a37b02621485ee1002f0e9d50089f4b3fb32808c349abde28c46", func := "interlock/interlocklaw07.HeapUndo", spec := "heapUndo", unfollowed := true, recurses := true, plainKeys := false, apart := false, narrowed := true }
def HeapUndoUptoSaid : Prop := heapUndoUptoRow.holds Try.pinned (OpenSpec.upto heapUndoSpec)

/-- 'interlocklaw07.HeapLoads', WHERE WHAT IT READS IS OF BULK AT MOST 1048576: true; the input reads as it did. -/
def heapLoadsUptoRow : OpenClaim := { program := "ytljigmghdpkdlaa", sum := "967a15075af0a37b02621485ee1002f0e9d50089f4b3fb32808c349abde28c46", func := "interlock/interlocklaw07.HeapLoads", spec := "heapLoads", unfollowed := true, recurses := true, plainKeys := false, apart := false, narrowed := true }
def HeapLoadsUptoSaid : Prop := heapLoadsUptoRow.holds Try.pinned (OpenSpec.upto heapLoadsSpec)

/-- 'interlocklaw07.HeapCalls', WHERE WHAT IT READS IS OF BULK AT MOST 1048576: true; the input reads as it did. -/
def heapCallsUptoRow : OpenClaim := { program := "ytljigmghdpkdlaa", sum := "967a15075af0a37b02621485ee1002f0e9d50089f4b3fb32808c349abde28c46", func := "interlock/interlocklaw07.HeapCalls", spec := "heapCalls", unfollowed := true, recurses := true, plainKeys := false, apart := false, narrowed := true }
def HeapCallsUptoSaid : Prop := heapCallsUptoRow.holds Try.pinned (OpenSpec.upto heapCallsSpec)

/-- 'interlocklaw07.HeapAfter', WHERE WHAT IT READS IS OF BULK AT MOST 1048576: true; the input reads as it did. -/
def heapAfterUptoRow : OpenClaim := { program := "ytljigmghdpkdlaa", sum := "967a15075af0a37b02621485ee1002f0e9d50089f4b3fb32808c349abde28c46", func := "interlock/interlocklaw07.HeapAfter", spec := "heapAfter", unfollowed := true, recurses := true, plainKeys := false, apart := false, narrowed := true }
def HeapAfterUptoSaid : Prop := heapAfterUptoRow.holds Try.pinned (OpenSpec.upto heapAfterSpec)

end Rows
end Go.Proofs.Ytljigmghdpkdlaa
