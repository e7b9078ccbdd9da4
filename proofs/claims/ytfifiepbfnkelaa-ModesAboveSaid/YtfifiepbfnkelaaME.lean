/- Modes: alive. -/
import Derived.Test.YtfifiepbfnkelaaMD
set_option linter.unusedVariables false
namespace Go.Proofs.Ytfifiepbfnkelaa.V
open Go Go.V Go.RowKit
noncomputable def p8 : POrc Try.prog := f8.pureOf dec0 (fun _ => []) dec0_enc (fun _ => .bool true) (fun _ => plainB _) fun _ => ⟨0, fun st => alive_run st⟩
end Go.Proofs.Ytfifiepbfnkelaa.V
