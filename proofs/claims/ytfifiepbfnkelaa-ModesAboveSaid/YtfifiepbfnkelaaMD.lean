/- What the functions' runs come to; the right sides were printed by a tool, Lean checks them. -/
import Derived.Test.YtfifiepbfnkelaaMC
set_option linter.unusedVariables false
set_option maxRecDepth 100000
namespace Go.Proofs.Ytfifiepbfnkelaa.V
open Go Go.V Go.RowKit

theorem alive_run (st : St) :
    (f8.run 0 [] st : Ans) =
    some (Fin.ret (AV.bool true), st) := by kernel_rfl

end Go.Proofs.Ytfifiepbfnkelaa.V
