/-
  No cell of these rows narrows 'for every input' (looked for: loops, veiled, ifaces, maps, wideKeys, modest, calm, conditions, laid).
  DERIVED. THE GIVEN ROWS OF THIS SEAT. 4 by the template 'for every input the law returns true; each argument reads behind the call as it read before'; 0 by the template 'total and deterministic' (their statements: YtnmglmkkeghnaaaTotals.lean).
  GIVEN WITH THE SEED: the statements are not yours to turn. If you find one false, say at which input.
  Laid BY PROGRAM, IN A SANDBOX (cutbox-rows.mjs): the forced cells as the released guide's own fill.sh prints them over the translation cf13dd3ed2e89f04… (all of the seat's roots in one cut). By AI agents, Wed Nov 11 2026. No macro, syntax, notation, axiom, sorry.
-/
import Derived.Test.YtnmglmkkeghnaaaChecked
import GoSem.Claim
import GoSem.ClaimJoined
import GoSem.ClaimMapViews
import Derived.JoinedTies
import Derived.KernelRfl
namespace Go.Proofs.Ytnmglmkkeghnaaa
/- THE CELL 'sum', in the pinned program and in every row, IS THE sha256 OF THE DUMP (.gsa) THAT YtnmglmkkeghnaaaProg.lean LOADS. Nothing in Lean hashes anything: it is a label: what it is worth is what the hold of that sum in a sandbox is worth. -/
noncomputable def Try.pinned : Pinned := { name := "ytnmglmkkeghnaaa", sum := "cf13dd3ed2e89f04c0d2454cb81efa0341086a12094eb80bf62cfd6bddb26e2c", checked := Try.checked }
namespace Rows
def none {H : Type} : Left H := { results := [], args := [] }

/-- 'interlocklaw12.CondSides': WHATEVER THE INPUT: true; the input reads as it did. -/
def condSidesSpec : ChangeSpec := { name := "condSides", fn := fun _ => fun
  | [d1, d2, d3] => { results := [.lit (.bool true)], args := [d1, d2, d3] }
  | _ => none }
def condSidesRow : OpenClaim := { program := "ytnmglmkkeghnaaa", sum := "cf13dd3ed2e89f04c0d2454cb81efa0341086a12094eb80bf62cfd6bddb26e2c", func := "interlock/interlocklaw12.CondSides", spec := "condSides", unfollowed := true, recurses := true, apart := false }
def CondSidesSaid : Prop := condSidesRow.holds Try.pinned (OpenSpec.ofChange condSidesSpec)

/-- ITS FALSE NEIGHBOUR: 'it returns false'. Refute it at one input. -/
def condSidesWrong : ChangeSpec := { name := "condSides", fn := fun _ => fun
  | [d1, d2, d3] => { results := [.lit (.bool false)], args := [d1, d2, d3] }
  | _ => none }
def CondSidesWrongFalsely : Prop := condSidesRow.holds Try.pinned (OpenSpec.ofChange condSidesWrong)

/-- 'interlocklaw12.CondMore': WHATEVER THE INPUT: true; the input reads as it did. -/
def condMoreSpec : ChangeSpec := { name := "condMore", fn := fun _ => fun
  | [d1, d2, d3, d4] => { results := [.lit (.bool true)], args := [d1, d2, d3, d4] }
  | _ => none }
def condMoreRow : OpenClaim := { program := "ytnmglmkkeghnaaa", sum := "cf13dd3ed2e89f04c0d2454cb81efa0341086a12094eb80bf62cfd6bddb26e2c", func := "interlock/interlocklaw12.CondMore", spec := "condMore", unfollowed := true, recurses := true, apart := false }
def CondMoreSaid : Prop := condMoreRow.holds Try.pinned (OpenSpec.ofChange condMoreSpec)

/-- ITS FALSE NEIGHBOUR: 'it returns false'. Refute it at one input. -/
def condMoreWrong : ChangeSpec := { name := "condMore", fn := fun _ => fun
  | [d1, d2, d3, d4] => { results := [.lit (.bool false)], args := [d1, d2, d3, d4] }
  | _ => none }
def CondMoreWrongFalsely : Prop := condMoreRow.holds Try.pinned (OpenSpec.ofChange condMoreWrong)

/-- 'interlocklaw12.CondNull': WHATEVER THE INPUT: true; the input reads as it did. -/
def condNullSpec : ChangeSpec := { name := "condNull", fn := fun _ => fun
  | [d1, d2] => { results := [.lit (.bool true)], args := [d1, d2] }
  | _ => none }
def condNullRow : OpenClaim := { program := "ytnmglmkkeghnaaa", sum := "cf13dd3ed2e89f04c0d2454cb81efa0341086a12094eb80bf62cfd6bddb26e2c", func := "interlock/interlocklaw12.CondNull", spec := "condNull", unfollowed := true, recurses := true, apart := false }
def CondNullSaid : Prop := condNullRow.holds Try.pinned (OpenSpec.ofChange condNullSpec)

/-- ITS FALSE NEIGHBOUR: 'it returns false'. Refute it at one input. -/
def condNullWrong : ChangeSpec := { name := "condNull", fn := fun _ => fun
  | [d1, d2] => { results := [.lit (.bool false)], args := [d1, d2] }
  | _ => none }
def CondNullWrongFalsely : Prop := condNullRow.holds Try.pinned (OpenSpec.ofChange condNullWrong)

/-- 'interlocklaw12.CondEquals': WHATEVER THE INPUT: true; the input reads as it did. -/
def condEqualsSpec : ChangeSpec := { name := "condEquals", fn := fun _ => fun
  | [d1, d2, d3] => { results := [.lit (.bool true)], args := [d1, d2, d3] }
  | _ => none }
def condEqualsRow : OpenClaim := { program := "ytnmglmkkeghnaaa", sum := "cf13dd3ed2e89f04c0d2454cb81efa0341086a12094eb80bf62cfd6bddb26e2c", func := "interlock/interlocklaw12.CondEquals", spec := "condEquals", unfollowed := true, recurses := true, apart := false }
def CondEqualsSaid : Prop := condEqualsRow.holds Try.pinned (OpenSpec.ofChange condEqualsSpec)

/-- ITS FALSE NEIGHBOUR: 'it returns false'. Refute it at one input. -/
def condEqualsWrong : ChangeSpec := { name := "condEquals", fn := fun _ => fun
  | [d1, d2, d3] => { results := [.lit (.bool false)], args := [d1, d2, d3] }
  | _ => none }
def CondEqualsWrongFalsely : Prop := condEqualsRow.holds Try.pinned (OpenSpec.ofChange condEqualsWrong)

/- THE SECOND FORM. 'bulk': how many values and letters a reading holds, each counted each time it is reached (what is shared counts as often as it is met; a slice's spare places count too). A statement '..UptoSaid' is the law's where the arguments, and the package variables that the reading takes, are together of bulk at most 1048576: NARROWER than '..Said'. Prove '..Said' where nothing that the law and all that it calls make is longer than what came in: it says more and counts as full. Else prove '..UptoSaid'. A law counts once. -/
mutual
def uptoBulk {H : Type} : DataW H → Nat
  | .lit (.string bytes) => bytes.length + 1
  | .lit _ => 1
  | .nil => 1
  | .ptr d => uptoBulk d + 1
  | .slice elems spare => uptoBulkAll elems + uptoBulkAll spare + 1
  | .agg parts => uptoBulkAll parts + 1
  | .iface _ d => uptoBulk d + 1
  | .map entries => uptoBulkEntries entries + 1
  | .held _ => 1
def uptoBulkAll {H : Type} : List (DataW H) → Nat
  | [] => 0
  | d :: r => uptoBulk d + uptoBulkAll r
def uptoBulkEntries {H : Type} : List (Lit × DataW H) → Nat
  | [] => 0
  | x :: r => uptoBulkEntry x + uptoBulkEntries r
def uptoBulkEntry {H : Type} : Lit × DataW H → Nat
  | (.string bytes, d) => bytes.length + uptoBulk d + 1
  | (_, d) => uptoBulk d + 1
 end
def uptoSmall : (H : Type) → List (DataW H) → Bool := fun _ ds => decide (uptoBulkAll ds ≤ 1048576)
def OpenSpec.upto (s : _root_.Go.ChangeSpec) : _root_.Go.OpenSpec := { _root_.Go.OpenSpec.ofChange s with cond := some uptoSmall }

/-- 'interlocklaw12.CondSides', WHERE WHAT IT READS IS OF BULK AT MOST 1048576: true; the input reads as it did. -/
def condSidesUptoRow : OpenClaim := { program := "ytnmglmkkeghnaaa", sum := "cf13dd3ed2e89f04c0d2454cb81efa0341086a12094eb80bf62cfd6bddb26e2c", func := "interlock/interlocklaw12.CondSides", spec := "condSides", unfollowed := true, recurses := true, apart := false, narrowed := true }
def CondSidesUptoSaid : Prop := condSidesUptoRow.holds Try.pinned (OpenSpec.upto condSidesSpec)

/-- 'interlocklaw12.CondMore', WHERE WHAT IT READS IS OF BULK AT MOST 1048576: true; the input reads as it did. -/
def condMoreUptoRow : OpenClaim := { program := "ytnmglmkkeghnaaa", sum := "cf13dd3ed2e89f04c0d2454cb81efa0341086a12094eb80bf62cfd6bddb26e2c", func := "interlock/interlocklaw12.CondMore", spec := "condMore", unfollowed := true, recurses := true, apart := false, narrowed := true }
def CondMoreUptoSaid : Prop := condMoreUptoRow.holds Try.pinned (OpenSpec.upto condMoreSpec)

/-- 'interlocklaw12.CondNull', WHERE WHAT IT READS IS OF BULK AT MOST 1048576: true; the input reads as it did. -/
def condNullUptoRow : OpenClaim := { program := "ytnmglmkkeghnaaa", sum := "cf13dd3ed2e89f04c0d2454cb81efa0341086a12094eb80bf62cfd6bddb26e2c", func := "interlock/interlocklaw12.CondNull", spec := "condNull", unfollowed := true, recurses := true, apart := false, narrowed := true }
def CondNullUptoSaid : Prop := condNullUptoRow.holds Try.pinned (OpenSpec.upto condNullSpec)

/-- 'interlocklaw12.CondEquals', WHERE WHAT IT READS IS OF BULK AT MOST 1048576: true; the input reads as it did. -/
def condEqualsUptoRow : OpenClaim := { program := "ytnmglmkkeghnaaa", sum := "cf13dd3ed2e89f04c0d2454cb81efa0341086a12094eb80bf62cfd6bddb26e2c", func := "interlock/interlocklaw12.CondEquals", spec := "condEquals", unfollowed := true, recurses := true, apart := false, narrowed := true }
def CondEqualsUptoSaid : Prop := condEqualsUptoRow.holds Try.pinned (OpenSpec.upto condEqualsSpec)

end Rows
end Go.Proofs.Ytnmglmkkeghnaaa
