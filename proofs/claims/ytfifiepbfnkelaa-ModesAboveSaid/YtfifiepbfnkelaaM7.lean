/- What the functions' runs come to; the right sides were printed by a tool, Lean checks them. -/
import Derived.Test.YtfifiepbfnkelaaM6
set_option linter.unusedVariables false
set_option maxRecDepth 100000
namespace Go.Proofs.Ytfifiepbfnkelaa.V
open Go Go.V Go.RowKit

theorem join_run (F : Nat) (a b : Int) (st : St) :
    (f14.run F [.int .i64 a, .int .i64 b] st : Ans) =
    loopRun (f14_l0.run F) [0, 1, 5, 7]
      (Cont.block 0 (Cont.then (f14_r0.run F (f14.leaveK Fun.done)) (f14.leaveK Fun.done))) F
      (Env.mk 32
        [(0, AV.int IntKind.i64 a), (1, AV.int IntKind.i64 b), (5, AV.int IntKind.i64 0), (7, AV.int IntKind.i64 0)])
      st := by kernel_rfl

theorem join_round (F n : Nat) (K : Cont) (a b best i : Int) (st : St) :
    (loopRun (f14_l0.run F) [0, 1, 5, 7] K n.succ (Env.mk 32 [(0, .int .i64 a), (1, .int .i64 b), (5, .int .i64 best), (7, .int .i64 i)]) st : Ans) =
    branch (AV.bool (decide (i < 9)))
      (branch (AV.bool (covF i a))
        (branch (AV.bool (covF i b))
          (branch (AV.bool (best == 0))
            (loopRun (f14_l0.run F) [0, 1, 5, 7] K n
              (Env.mk 32
                [(0, AV.int IntKind.i64 a), (1, AV.int IntKind.i64 b), (5, AV.int IntKind.i64 i),
                  (7, AV.int IntKind.i64 (IntKind.i64.wrap (i + 1)))])
              st)
            (branch (AV.bool (decide (sizeF i < sizeF best)))
              (loopRun (f14_l0.run F) [0, 1, 5, 7] K n
                (Env.mk 32
                  [(0, AV.int IntKind.i64 a), (1, AV.int IntKind.i64 b), (5, AV.int IntKind.i64 i),
                    (7, AV.int IntKind.i64 (IntKind.i64.wrap (i + 1)))])
                st)
              (loopRun (f14_l0.run F) [0, 1, 5, 7] K n
                (Env.mk 32
                  [(0, AV.int IntKind.i64 a), (1, AV.int IntKind.i64 b), (5, AV.int IntKind.i64 best),
                    (7, AV.int IntKind.i64 (IntKind.i64.wrap (i + 1)))])
                st)))
          (loopRun (f14_l0.run F) [0, 1, 5, 7] K n
            (Env.mk 32
              [(0, AV.int IntKind.i64 a), (1, AV.int IntKind.i64 b), (5, AV.int IntKind.i64 best),
                (7, AV.int IntKind.i64 (IntKind.i64.wrap (i + 1)))])
            st))
        (loopRun (f14_l0.run F) [0, 1, 5, 7] K n
          (Env.mk 32
            [(0, AV.int IntKind.i64 a), (1, AV.int IntKind.i64 b), (5, AV.int IntKind.i64 best),
              (7, AV.int IntKind.i64 (IntKind.i64.wrap (i + 1)))])
          st))
      (K (AX.exit 0) (Env.mk 32 [(5, AV.int IntKind.i64 best)]) st) := by kernel_rfl

theorem join_out (F : Nat) (best : Int) (st : St) :
    ((Cont.block 0 (Cont.then (f14_r0.run F (f14.leaveK Fun.done)) (f14.leaveK Fun.done))) (.exit 0) (Env.mk 32 [(5, .int .i64 best)]) st : Ans) =
    some (Fin.ret (AV.int IntKind.i64 best), st) := by kernel_rfl

theorem join2_run (F : Nat) (a b : Int) (st : St) :
    (f15.run F [.int .i64 a, .int .i64 b] st : Ans) =
    loopRun (f15_l0.run F) [0, 1, 5, 6]
      (Cont.block 0 (Cont.then (f15_r0.run F (f15.leaveK Fun.done)) (f15.leaveK Fun.done))) F
      (Env.mk 34
        [(0, AV.int IntKind.i64 a), (1, AV.int IntKind.i64 b), (5, AV.int IntKind.i64 0), (6, AV.int IntKind.i64 1)])
      st := by kernel_rfl

theorem join2_round (F n : Nat) (K : Cont) (a b best i : Int) (st : St) :
    (loopRun (f15_l0.run F) [0, 1, 5, 6] K n.succ (Env.mk 34 [(0, .int .i64 a), (1, .int .i64 b), (5, .int .i64 best), (6, .int .i64 i)]) st : Ans) =
    branch (AV.bool (decide (i ≤ 8)))
      (branch (AV.bool (covF i a))
        (branch (AV.bool (covF i b))
          (branch (AV.bool (best == 0))
            (loopRun (f15_l0.run F) [0, 1, 5, 6] K n
              (Env.mk 34
                [(0, AV.int IntKind.i64 a), (1, AV.int IntKind.i64 b), (5, AV.int IntKind.i64 i),
                  (6, AV.int IntKind.i64 (IntKind.i64.wrap (i + 1)))])
              st)
            (branch (AV.bool (rightF i))
              (branch (AV.bool (rightF best))
                (branch
                  (AV.bool
                    (decide
                      ((↑(List.map (fun (x : Int) => [AV.int IntKind.i64 x]) (rowF i)).length : Int) <
                        (↑(List.map (fun (x : Int) => [AV.int IntKind.i64 x]) (rowF best)).length : Int))))
                  (loopRun (f15_l0.run F) [0, 1, 5, 6] K n
                    (Env.mk 34
                      [(0, AV.int IntKind.i64 a), (1, AV.int IntKind.i64 b), (5, AV.int IntKind.i64 i),
                        (6, AV.int IntKind.i64 (IntKind.i64.wrap (i + 1)))])
                    st)
                  (loopRun (f15_l0.run F) [0, 1, 5, 6] K n
                    (Env.mk 34
                      [(0, AV.int IntKind.i64 a), (1, AV.int IntKind.i64 b), (5, AV.int IntKind.i64 best),
                        (6, AV.int IntKind.i64 (IntKind.i64.wrap (i + 1)))])
                    st))
                none)
              none))
          (loopRun (f15_l0.run F) [0, 1, 5, 6] K n
            (Env.mk 34
              [(0, AV.int IntKind.i64 a), (1, AV.int IntKind.i64 b), (5, AV.int IntKind.i64 best),
                (6, AV.int IntKind.i64 (IntKind.i64.wrap (i + 1)))])
            st))
        (loopRun (f15_l0.run F) [0, 1, 5, 6] K n
          (Env.mk 34
            [(0, AV.int IntKind.i64 a), (1, AV.int IntKind.i64 b), (5, AV.int IntKind.i64 best),
              (6, AV.int IntKind.i64 (IntKind.i64.wrap (i + 1)))])
          st))
      (K (AX.exit 0) (Env.mk 34 [(5, AV.int IntKind.i64 best)]) st) := by kernel_rfl

theorem join2_out (F : Nat) (best : Int) (st : St) :
    ((Cont.block 0 (Cont.then (f15_r0.run F (f15.leaveK Fun.done)) (f15.leaveK Fun.done))) (.exit 0) (Env.mk 34 [(5, .int .i64 best)]) st : Ans) =
    some (Fin.ret (AV.int IntKind.i64 best), st) := by kernel_rfl

end Go.Proofs.Ytfifiepbfnkelaa.V
