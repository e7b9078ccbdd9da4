/-
  No cell of these rows narrows 'for every input' (looked for: loops, veiled, ifaces, maps, wideKeys, modest, calm, conditions, laid).
  DERIVED. THE GIVEN ROWS OF THIS SEAT. 5 by the template 'for every input the law returns true; each argument reads behind the call as it read before'; 0 by the template 'total and deterministic' (their statements: YtnhdjhcpbjggmaaTotals.lean).
  GIVEN WITH THE SEED: the statements are not yours to turn. If you find one false, say at which input.
  Laid BY PROGRAM, IN A SANDBOX (cutbox-rows.mjs): the forced cells as the released guide's own fill.sh prints them over the translation f9bcf4dd9085e2dc… (all of the seat's roots in one cut). By AI agents, Wed Nov 11 2026. No macro, syntax, notation, axiom, sorry.
-/
import Derived.Test.YtnhdjhcpbjggmaaChecked
import GoSem.Claim
import GoSem.ClaimJoined
import GoSem.ClaimMapViews
import Derived.JoinedTies
import Derived.KernelRfl
namespace Go.Proofs.Ytnhdjhcpbjggmaa
/- THE CELL 'sum', in the pinned program and in every row, IS THE sha256 OF THE DUMP (.gsa) THAT YtnhdjhcpbjggmaaProg.lean LOADS. Nothing in Lean hashes anything: it is a label: what it is worth is what the hold of that sum in a sandbox is worth. -/
noncomputable def Try.pinned : Pinned := { name := "ytnhdjhcpbjggmaa", sum := "f9bcf4dd9085e2dc21244c606dbcb7afb08aa04df1ed8646309826506f31ad09", checked := Try.checked }
namespace Rows
def none {H : Type} : Left H := { results := [], args := [] }

/-- 'interlocklaw03.WalKeeps': WHATEVER THE INPUT: true; the input reads as it did. -/
def walKeepsSpec : ChangeSpec := { name := "walKeeps", fn := fun _ => fun
  | [d1, d2, d3, d4] => { results := [.lit (.bool true)], args := [d1, d2, d3, d4] }
  | _ => none }
def walKeepsRow : OpenClaim := { program := "ytnhdjhcpbjggmaa", sum := "f9bcf4dd9085e2dc21244c606dbcb7afb08aa04df1ed8646309826506f31ad09", func := "interlock/interlocklaw03.WalKeeps", spec := "walKeeps", unfollowed := true, recurses := true, apart := false }
def WalKeepsSaid : Prop := walKeepsRow.holds Try.pinned (OpenSpec.ofChange walKeepsSpec)

/-- ITS FALSE NEIGHBOUR: 'it returns false'. Refute it at one input. -/
def walKeepsWrong : ChangeSpec := { name := "walKeeps", fn := fun _ => fun
  | [d1, d2, d3, d4] => { results := [.lit (.bool false)], args := [d1, d2, d3, d4] }
  | _ => none }
def WalKeepsWrongFalsely : Prop := walKeepsRow.holds Try.pinned (OpenSpec.ofChange walKeepsWrong)

/-- 'interlocklaw03.WalAgain': WHATEVER THE INPUT: true; the input reads as it did. -/
def walAgainSpec : ChangeSpec := { name := "walAgain", fn := fun _ => fun
  | [d1, d2] => { results := [.lit (.bool true)], args := [d1, d2] }
  | _ => none }
def walAgainRow : OpenClaim := { program := "ytnhdjhcpbjggmaa", sum := "f9bcf4dd9085e2dc21244c606dbcb7afb08aa04df1ed8646309826506f31ad09", func := "interlock/interlocklaw03.WalAgain", spec := "walAgain", unfollowed := true, recurses := true, apart := false }
def WalAgainSaid : Prop := walAgainRow.holds Try.pinned (OpenSpec.ofChange walAgainSpec)

/-- ITS FALSE NEIGHBOUR: 'it returns false'. Refute it at one input. -/
def walAgainWrong : ChangeSpec := { name := "walAgain", fn := fun _ => fun
  | [d1, d2] => { results := [.lit (.bool false)], args := [d1, d2] }
  | _ => none }
def WalAgainWrongFalsely : Prop := walAgainRow.holds Try.pinned (OpenSpec.ofChange walAgainWrong)

/-- 'interlocklaw03.WalRoom': WHATEVER THE INPUT: true; the input reads as it did. -/
def walRoomSpec : ChangeSpec := { name := "walRoom", fn := fun _ => fun
  | [d1, d2] => { results := [.lit (.bool true)], args := [d1, d2] }
  | _ => none }
def walRoomRow : OpenClaim := { program := "ytnhdjhcpbjggmaa", sum := "f9bcf4dd9085e2dc21244c606dbcb7afb08aa04df1ed8646309826506f31ad09", func := "interlock/interlocklaw03.WalRoom", spec := "walRoom", unfollowed := true, recurses := true, apart := false }
def WalRoomSaid : Prop := walRoomRow.holds Try.pinned (OpenSpec.ofChange walRoomSpec)

/-- ITS FALSE NEIGHBOUR: 'it returns false'. Refute it at one input. -/
def walRoomWrong : ChangeSpec := { name := "walRoom", fn := fun _ => fun
  | [d1, d2] => { results := [.lit (.bool false)], args := [d1, d2] }
  | _ => none }
def WalRoomWrongFalsely : Prop := walRoomRow.holds Try.pinned (OpenSpec.ofChange walRoomWrong)

/-- 'interlocklaw03.WalSwitch': WHATEVER THE INPUT: true; the input reads as it did. -/
def walSwitchSpec : ChangeSpec := { name := "walSwitch", fn := fun _ => fun
  | [d1, d2, d3, d4] => { results := [.lit (.bool true)], args := [d1, d2, d3, d4] }
  | _ => none }
def walSwitchRow : OpenClaim := { program := "ytnhdjhcpbjggmaa", sum := "f9bcf4dd9085e2dc21244c606dbcb7afb08aa04df1ed8646309826506f31ad09", func := "interlock/interlocklaw03.WalSwitch", spec := "walSwitch", unfollowed := true, recurses := true, apart := false }
def WalSwitchSaid : Prop := walSwitchRow.holds Try.pinned (OpenSpec.ofChange walSwitchSpec)

/-- ITS FALSE NEIGHBOUR: 'it returns false'. Refute it at one input. -/
def walSwitchWrong : ChangeSpec := { name := "walSwitch", fn := fun _ => fun
  | [d1, d2, d3, d4] => { results := [.lit (.bool false)], args := [d1, d2, d3, d4] }
  | _ => none }
def WalSwitchWrongFalsely : Prop := walSwitchRow.holds Try.pinned (OpenSpec.ofChange walSwitchWrong)

/-- 'interlocklaw03.WalCalls': WHATEVER THE INPUT: true; the input reads as it did. -/
def walCallsSpec : ChangeSpec := { name := "walCalls", fn := fun _ => fun
  | [d1, d2] => { results := [.lit (.bool true)], args := [d1, d2] }
  | _ => none }
def walCallsRow : OpenClaim := { program := "ytnhdjhcpbjggmaa", sum := "f9bcf4dd9085e2dc21244c606dbcb7afb08aa04df1ed8646309826506f31ad09", func := "interlock/interlocklaw03.WalCalls", spec := "walCalls", unfollowed := true, recurses := true, apart := false }
def WalCallsSaid : Prop := walCallsRow.holds Try.pinned (OpenSpec.ofChange walCallsSpec)

/-- ITS FALSE NEIGHBOUR: 'it returns false'. Refute it at one input. -/
def walCallsWrong : ChangeSpec := { name := "walCalls", fn := fun _ => fun
  | [d1, d2] => { results := [.lit (.bool false)], args := [d1, d2] }
  | _ => none }
def WalCallsWrongFalsely : Prop := walCallsRow.holds Try.pinned (OpenSpec.ofChange walCallsWrong)

/- THE SECOND FORM. 'bulk': how many values and letters a reading holds, each counted each time it is reached (what is shared counts as often as it is met; a slice's spare places count too). A statement '..UptoSaid' is the law's where the arguments, and the package variables that the reading takes, are together of bulk at most 1048576: NARROWER than '..Said'. Prove '..Said' where nothing that the law and all that it calls make is longer than what came in: it says more and counts as full. Else prove '..UptoSaid'. A law counts once. -/
mutual
def uptoBulk {H : Type} : DataW H → Nat
  | .lit (.string bytes) => bytes.length + 1
  | .lit _ => 1
  | .nil => 1
  | .ptr d => uptoBulk d + 1
  | .slice elems spare => uptoBulkAll elems + uptoBulkAll spare + 1
  | .agg parts => uptoBulkAll parts + 1
  | .iface _ d => uptoBulk d + 1
  | .map entries => uptoBulkEntries entries + 1
  | .held _ => 1
def uptoBulkAll {H : Type} : List (DataW H) → Nat
  | [] => 0
  | d :: r => uptoBulk d + uptoBulkAll r
def uptoBulkEntries {H : Type} : List (Lit × DataW H) → Nat
  | [] => 0
  | x :: r => uptoBulkEntry x + uptoBulkEntries r
def uptoBulkEntry {H : Type} : Lit × DataW H → Nat
  | (.string bytes, d) => bytes.length + uptoBulk d + 1
  | (_, d) => uptoBulk d + 1
 end
def uptoSmall : (H : Type) → List (DataW H) → Bool := fun _ ds => decide (uptoBulkAll ds ≤ 1048576)
def OpenSpec.upto (s : _root_.Go.ChangeSpec) : _root_.Go.OpenSpec := { _root_.Go.OpenSpec.ofChange s with cond := some uptoSmall }

/-- 'interlocklaw03.WalKeeps', WHERE WHAT IT READS IS OF BULK AT MOST 1048576: true; the input reads as it did. -/
def walKeepsUptoRow : OpenClaim := { program := "ytnhdjhcpbjggmaa", sum := "f9bcf4dd9085e2dc21244c606dbcb7afb08aa04df1ed8646309826506f31ad09", func := "interlock/interlocklaw03.WalKeeps", spec := "walKeeps", unfollowed := true, recurses := true, apart := false, narrowed := true }
def WalKeepsUptoSaid : Prop := walKeepsUptoRow.holds Try.pinned (OpenSpec.upto walKeepsSpec)

/-- 'interlocklaw03.WalAgain', WHERE WHAT IT READS IS OF BULK AT MOST 1048576: true; the input reads as it did. -/
def walAgainUptoRow : OpenClaim := { program := "ytnhdjhcpbjggmaa", sum := "f9bcf4dd9085e2dc21244c606dbcb7afb08aa04df1ed8646309826506f31ad09", func := "interlock/interlocklaw03.WalAgain", spec := "walAgain", unfollowed := true, recurses := true, apart := false, narrowed := true }
def WalAgainUptoSaid : Prop := walAgainUptoRow.holds Try.pinned (OpenSpec.upto walAgainSpec)

/-- 'interlocklaw03.WalRoom', WHERE WHAT IT READS IS OF BULK AT MOST 1048576: true; the input reads as it did. -/
def walRoomUptoRow : OpenClaim := { program := "ytnhdjhcpbjggmaa", sum := "f9bcf4dd9085e2dc21244c606dbcb7afb08aa04df1ed8646309826506f31ad09", func := "interlock/interlocklaw03.WalRoom", spec := "walRoom", unfollowed := true, recurses := true, apart := false, narrowed := true }
def WalRoomUptoSaid : Prop := walRoomUptoRow.holds Try.pinned (OpenSpec.upto walRoomSpec)

/-- 'interlocklaw03.WalSwitch', WHERE WHAT IT READS IS OF BULK AT MOST 1048576: true; the input reads as it did. -/
def walSwitchUptoRow : OpenClaim := { program := "ytnhdjhcpbjggmaa", sum := "f9bcf4dd9085e2dc21244c606dbcb7afb08aa04df1ed8646309826506f31ad09", func := "interlock/interlocklaw03.WalSwitch", spec := "walSwitch", unfollowed := true, recurses := true, apart := false, narrowed := true }
def WalSwitchUptoSaid : Prop := walSwitchUptoRow.holds Try.pinned (OpenSpec.upto walSwitchSpec)

/-- 'interlocklaw03.WalCalls', WHERE WHAT IT READS IS OF BULK AT MOST 1048576: true; the input reads as it did. -/
def walCallsUptoRow : OpenClaim := { program := "ytnhdjhcpbjggmaa", sum := "f9bcf4dd9085e2dc21244c606dbcb7afb08aa04df1ed8646309826506f31ad09", func := "interlock/interlocklaw03.WalCalls", spec := "walCalls", unfollowed := true, recurses := true, apart := false, narrowed := true }
def WalCallsUptoSaid : Prop := walCallsUptoRow.holds Try.pinned (OpenSpec.upto walCallsSpec)

end Rows
end Go.Proofs.Ytnhdjhcpbjggmaa
