/- Bits: alive. -/
import Derived.Test.YtjdpfblmhahfkaaBD
import Derived.Test.YtjdpfblmhahfkaaVI
set_option linter.unusedVariables false
namespace Go.Proofs.Ytjdpfblmhahfkaa.V
open Go Go.V Go.RowKit
noncomputable def p9 : POrc Try.prog := f9.flatIf dec0 (fun _ => []) dec0_enc (fun _ => true) (fun _ => .bool true) (fun _ => trivial) (fun _ => trivial) fun _ _ => ⟨20, _, alive_run⟩

end Go.Proofs.Ytjdpfblmhahfkaa.V
