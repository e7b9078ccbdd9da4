/- What the functions' runs come to; the right sides were printed by a tool, Lean checks them. -/
import Derived.Test.YtfifiepbfnkelaaMF
set_option linter.unusedVariables false
set_option maxRecDepth 100000
namespace Go.Proofs.Ytfifiepbfnkelaa.V
open Go Go.V Go.RowKit

theorem table_run (a b : Int) (st : St) :
    (f3.run 0 [.int .i64 a, .int .i64 b] st : Ans) =
    branch (AV.bool (decide (a ≥ 1)))
      (branch (AV.bool (rightF a == decide (a ≤ 8)))
        (branch (AV.bool (confF a b == confF a b))
          (branch (AV.bool (covF a b == covF a b)) (some (Fin.ret (AV.bool (joinF a b == joinF a b)), st))
            (some (Fin.ret (AV.bool false), st)))
          (some (Fin.ret (AV.bool false), st)))
        (some (Fin.ret (AV.bool false), st)))
      (branch (AV.bool (rightF a == false))
        (branch (AV.bool (confF a b == confF a b))
          (branch (AV.bool (covF a b == covF a b)) (some (Fin.ret (AV.bool (joinF a b == joinF a b)), st))
            (some (Fin.ret (AV.bool false), st)))
          (some (Fin.ret (AV.bool false), st)))
        (some (Fin.ret (AV.bool false), st))) := by kernel_rfl

theorem ways_run (a b c : Int) (st : St) :
    (f5.run 0 [.int .i64 a, .int .i64 b, .int .i64 c] st : Ans) =
    branch (AV.bool !confF a b == confF b a) (some (Fin.ret (AV.bool false), st))
      (branch (AV.bool (covF a b))
        (branch (AV.bool (confF b c))
          (branch (AV.bool !confF a c) (some (Fin.ret (AV.bool false), st))
            (branch (AV.bool (covF a b))
              (branch (AV.bool (covF b c))
                (branch (AV.bool !covF a c) (some (Fin.ret (AV.bool false), st))
                  (branch (AV.bool !rightF a) (some (Fin.ret (AV.bool true), st))
                    (branch (AV.bool (covF a a)) (some (Fin.ret (AV.bool (covF 8 a)), st))
                      (some (Fin.ret (AV.bool false), st)))))
                (branch (AV.bool !rightF a) (some (Fin.ret (AV.bool true), st))
                  (branch (AV.bool (covF a a)) (some (Fin.ret (AV.bool (covF 8 a)), st))
                    (some (Fin.ret (AV.bool false), st)))))
              (branch (AV.bool !rightF a) (some (Fin.ret (AV.bool true), st))
                (branch (AV.bool (covF a a)) (some (Fin.ret (AV.bool (covF 8 a)), st))
                  (some (Fin.ret (AV.bool false), st))))))
          (branch (AV.bool (covF a b))
            (branch (AV.bool (covF b c))
              (branch (AV.bool !covF a c) (some (Fin.ret (AV.bool false), st))
                (branch (AV.bool !rightF a) (some (Fin.ret (AV.bool true), st))
                  (branch (AV.bool (covF a a)) (some (Fin.ret (AV.bool (covF 8 a)), st))
                    (some (Fin.ret (AV.bool false), st)))))
              (branch (AV.bool !rightF a) (some (Fin.ret (AV.bool true), st))
                (branch (AV.bool (covF a a)) (some (Fin.ret (AV.bool (covF 8 a)), st))
                  (some (Fin.ret (AV.bool false), st)))))
            (branch (AV.bool !rightF a) (some (Fin.ret (AV.bool true), st))
              (branch (AV.bool (covF a a)) (some (Fin.ret (AV.bool (covF 8 a)), st))
                (some (Fin.ret (AV.bool false), st))))))
        (branch (AV.bool (covF a b))
          (branch (AV.bool (covF b c))
            (branch (AV.bool !covF a c) (some (Fin.ret (AV.bool false), st))
              (branch (AV.bool !rightF a) (some (Fin.ret (AV.bool true), st))
                (branch (AV.bool (covF a a)) (some (Fin.ret (AV.bool (covF 8 a)), st))
                  (some (Fin.ret (AV.bool false), st)))))
            (branch (AV.bool !rightF a) (some (Fin.ret (AV.bool true), st))
              (branch (AV.bool (covF a a)) (some (Fin.ret (AV.bool (covF 8 a)), st)) (some (Fin.ret (AV.bool false), st)))))
          (branch (AV.bool !rightF a) (some (Fin.ret (AV.bool true), st))
            (branch (AV.bool (covF a a)) (some (Fin.ret (AV.bool (covF 8 a)), st)) (some (Fin.ret (AV.bool false), st)))))) := by kernel_rfl

theorem joins_run (F : Nat) (a b c : Int) (st : St) :
    (f6.run F [.int .i64 a, .int .i64 b, .int .i64 c] st : Ans) =
    branch (AV.bool !rightF a) (some (Fin.ret (AV.bool (joinF a b == 0)), st))
      (branch (AV.bool !rightF b) (some (Fin.ret (AV.bool (joinF a b == 0)), st))
        (branch (AV.bool !covF (joinF a b, a).fst a) (some (Fin.ret (AV.bool false), st))
          (branch (AV.bool !covF (joinF a b, b).fst b) (some (Fin.ret (AV.bool false), st))
            (branch (AV.bool (joinF a b != joinF b a)) (some (Fin.ret (AV.bool false), st))
              (branch (AV.bool (joinF a a == 0)) (some (Fin.ret (AV.bool false), st))
                (branch (AV.bool !covF c a) (some (Fin.ret (AV.bool true), st))
                  (branch (AV.bool !covF c b) (some (Fin.ret (AV.bool true), st))
                    (loopRun (f6_l0.run F) [2, 7, 8, 9]
                      (Cont.block 0 (Cont.then (f6_r0.run F (f6.leaveK Fun.done)) (f6.leaveK Fun.done))) F
                      (Env.mk 74
                        [(2, AV.int IntKind.i64 c), (7, AV.int IntKind.i64 (joinF a b)), (8, AV.int IntKind.i64 0),
                          (9, AV.int IntKind.i64 1)])
                      st)))))))) := by kernel_rfl

end Go.Proofs.Ytfifiepbfnkelaa.V
