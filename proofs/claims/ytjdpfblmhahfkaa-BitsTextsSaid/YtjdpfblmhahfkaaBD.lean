/- What the functions' runs come to; the right sides were printed by a tool, Lean checks them. -/
import Derived.Test.YtjdpfblmhahfkaaBC
set_option linter.unusedVariables false
set_option maxRecDepth 100000
namespace Go.Proofs.Ytjdpfblmhahfkaa.V
open Go Go.V Go.RowKit

theorem alive_run  :
    (f9.run 20 [] ⟨[], []⟩ : Ans) =
    some (Fin.ret (AV.bool true), St.mk [Ob.cells [AV.sl 1 false [[AV.int IntKind.u8 98]], AV.bool false]] [(1, 1), (1, 2)]) := by kernel_rfl

theorem texts_run (F : Nat) (f : Bool) (l : List (List AV)) (st : St) :
    (f20.run F [.sl 1 f l] st : Ans) =
    branch (AV.bool (i64B (↑l.length : Int)))
      (loopRun (f20_l0.run F) [3, 9, 10, 11]
        (Cont.block 0 (Cont.then (f20_r0.run F (f20.leaveK Fun.done)) (f20.leaveK Fun.done))) F
        (Env.mk 21
          [(3, AV.lg st.tk.length 1 (rb (intBytes (↑l.length : Int)))), (9, AV.sl 1 f l),
            (10, AV.int IntKind.i64 (↑l.length : Int)), (11, AV.int IntKind.i64 0)])
        (St.mk st.objs (st.tk ++ [(1, (intBytes (↑l.length : Int)).length)])))
      none := by kernel_rfl

theorem rtexts_run (F : Nat) (f : Bool) (l : List (List AV)) (st : St) :
    (f21.run F [.sl 1 f l] st : Ans) =
    branch (AV.bool (i64B (↑l.length : Int)))
      (loopRun (f21_l0.run F) [0, 3, 4]
        (Cont.block 0 (Cont.then (f21_r0.run F (f21.leaveK Fun.done)) (f21.leaveK Fun.done))) F
        (Env.mk 22
          [(0, AV.sl 1 f l), (3, AV.lg st.tk.length 1 (rb (intBytes (↑l.length : Int)))), (4, AV.int IntKind.i64 0)])
        (St.mk st.objs (st.tk ++ [(1, (intBytes (↑l.length : Int)).length)])))
      none := by kernel_rfl

end Go.Proofs.Ytjdpfblmhahfkaa.V
