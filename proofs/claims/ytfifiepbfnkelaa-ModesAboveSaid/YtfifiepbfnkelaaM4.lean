/- What the functions' runs come to; the right sides were printed by a tool, Lean checks them. -/
import Derived.Test.YtfifiepbfnkelaaM3
set_option linter.unusedVariables false
set_option maxRecDepth 100000
namespace Go.Proofs.Ytfifiepbfnkelaa.V
open Go Go.V Go.RowKit

theorem cf_run (a b : Int) (st : St) :
    (f10.run 12 [.int .i64 a, .int .i64 b] st : Ans) =
    branch (AV.bool (rightF a))
      (branch (AV.bool (rightF b))
        (if 0 ≤ b then
          some
            (Fin.ret
                (AV.bool
                  (bitsI BinOp.and IntKind.u16 (maskF a)
                      (bitsI BinOp.or IntKind.u16 0 (IntKind.u16.wrap (1 * 2 ^ min b.toNat 16))) !=
                    0)),
              st)
        else none)
        (some (Fin.ret (AV.bool false), st)))
      (some (Fin.ret (AV.bool false), st)) := by kernel_rfl

theorem cv_run (a b : Int) (st : St) :
    (f12.run 0 [.int .i64 a, .int .i64 b] st : Ans) =
    branch (AV.bool (rightF a))
      (branch (AV.bool (rightF b)) (some (Fin.ret (AV.bool (bitsI BinOp.andNot IntKind.u16 (maskF b) (maskF a) == 0)), st))
        (some (Fin.ret (AV.bool false), st)))
      (some (Fin.ret (AV.bool false), st)) := by kernel_rfl

theorem cv2_run (F : Nat) (a b : Int) (st : St) :
    (f13.run F [.int .i64 a, .int .i64 b] st : Ans) =
    branch (AV.bool !rightF a) (some (Fin.ret (AV.bool false), st))
      (branch (AV.bool !rightF b) (some (Fin.ret (AV.bool false), st))
        (loopRun (f13_l0.run F) [0, 1, 5, 22, 23, 24, 25]
          (Cont.block 0 (Cont.then (f13_r0.run F (f13.leaveK Fun.done)) (f13.leaveK Fun.done))) F
          (Env.mk 27
            [(0, AV.int IntKind.i64 a), (1, AV.int IntKind.i64 b), (5, AV.int IntKind.i64 1), (22, AV.dead), (23, AV.dead),
              (24, AV.dead), (25, AV.dead)])
          st)) := by kernel_rfl

end Go.Proofs.Ytfifiepbfnkelaa.V
