/- What the functions' runs come to; the right sides were printed by a tool, Lean checks them. -/
import Derived.Test.YtjdpfblmhahfkaaB2
set_option linter.unusedVariables false
set_option maxRecDepth 100000
namespace Go.Proofs.Ytjdpfblmhahfkaa.V
open Go Go.V Go.RowKit

theorem int_run (F : Nat) (n : Int) (st : St) :
    (f15.run F [.int .i64 n] st : Ans) =
    loopRun (f15_l0.run F) [3, 4] (Cont.block 0 (Cont.then (f15_r0.run F (f15.leaveK Fun.done)) (f15.leaveK Fun.done))) F
      (Env.mk 22
        [(3, AV.nilsl),
          (4,
            AV.int IntKind.u64
              (bitsI BinOp.xor IntKind.u64 (IntKind.u64.wrap (IntKind.u64.wrap n * 2))
                (IntKind.u64.wrap (n.fdiv 9223372036854775808))))])
      st := by kernel_rfl

theorem int_first (F n : Nat) (K : Cont) (u : Int) (st : St) :
    (loopRun (f15_l0.run F) [3, 4] K n.succ (Env.mk 22 [(3, .nilsl), (4, .int .u64 u)]) st : Ans) =
    branch (AV.bool (decide (u ≥ 128)))
      (loopRun (f15_l0.run F) [3, 4] K n
        (Env.mk 22
          [(3, AV.lg st.tk.length 1 [[AV.int IntKind.u8 (bitsI BinOp.or IntKind.u8 (IntKind.u8.wrap u) 128)]]),
            (4, AV.int IntKind.u64 (u.fdiv 128))])
        (St.mk st.objs (st.tk ++ [(1, 1)])))
      (K (AX.exit 0) (Env.mk 22 [(3, AV.nilsl), (4, AV.int IntKind.u64 u)]) st) := by kernel_rfl

theorem int_round (F n t : Nat) (K : Cont) (u : Int) (l : List (List AV)) (st : St) :
    (loopRun (f15_l0.run F) [3, 4] K n.succ (Env.mk 22 [(3, .lg t 1 l), (4, .int .u64 u)]) st : Ans) =
    branch (AV.bool (decide (u ≥ 128)))
      (if st.tk[t]? = some (1, l.length) ∧ (l.length + 1) * 1 ≤ 140737488355328 then
        loopRun (f15_l0.run F) [3, 4] K n
          (Env.mk 22
            [(3, AV.lg t 1 (l ++ [[AV.int IntKind.u8 (bitsI BinOp.or IntKind.u8 (IntKind.u8.wrap u) 128)]])),
              (4, AV.int IntKind.u64 (u.fdiv 128))])
          (St.mk st.objs (st.tk.set t (1, l.length + 1)))
      else none)
      (K (AX.exit 0) (Env.mk 22 [(3, AV.lg t 1 l), (4, AV.int IntKind.u64 u)]) st) := by kernel_rfl

theorem int_out (F t : Nat) (u : Int) (l : List (List AV)) (st : St) :
    ((Cont.block 0 (Cont.then (f15_r0.run F (f15.leaveK Fun.done)) (f15.leaveK Fun.done))) (.exit 0) (Env.mk 22 [(3, .lg t 1 l), (4, .int .u64 u)]) st : Ans) =
    if st.tk[t]? = some (1, l.length) ∧ (l.length + 1) * 1 ≤ 140737488355328 then
      some
        (Fin.ret (AV.lg t 1 (l ++ [[AV.int IntKind.u8 (IntKind.u8.wrap u)]])),
          St.mk st.objs (st.tk.set t (1, l.length + 1)))
    else none := by kernel_rfl

theorem int_out0 (F : Nat) (u : Int) (st : St) :
    ((Cont.block 0 (Cont.then (f15_r0.run F (f15.leaveK Fun.done)) (f15.leaveK Fun.done))) (.exit 0) (Env.mk 22 [(3, .nilsl), (4, .int .u64 u)]) st : Ans) =
    some (Fin.ret (AV.lg st.tk.length 1 [[AV.int IntKind.u8 (IntKind.u8.wrap u)]]), St.mk st.objs (st.tk ++ [(1, 1)])) := by kernel_rfl

end Go.Proofs.Ytjdpfblmhahfkaa.V
