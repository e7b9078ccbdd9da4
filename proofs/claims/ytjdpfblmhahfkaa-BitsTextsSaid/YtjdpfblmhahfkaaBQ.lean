/- What the functions' runs come to; the right sides were printed by a tool, Lean checks them. -/
import Derived.Test.YtjdpfblmhahfkaaBP
set_option linter.unusedVariables false
set_option maxRecDepth 100000
namespace Go.Proofs.Ytjdpfblmhahfkaa.V
open Go Go.V Go.RowKit

theorem tx_nil (F : Nat) (st : St) :
    (f20.run F.succ [.nilsl] st : Ans) =
    some (Fin.ret (AV.lg st.tk.length 1 [[AV.int IntKind.u8 0]]), St.mk st.objs (st.tk ++ [(1, 1)])) := by kernel_rfl

theorem tx_round_raw (F n t : Nat) (K : Cont) (f : Bool) (i : Int) (lo l : List (List AV)) (s : ByteArray) (os : List Ob) (tk : List (Nat × Nat)) :
    (loopRun (f20_l0.run F) [3, 9, 10, 11] K n.succ (Env.mk 21 [(3, .lg t 1 lo), (9, .sl 1 f l), (10, .int .i64 l.length), (11, .int .i64 i)]) ⟨os, tk⟩ : Ans) =
    branch (AV.bool (decide (i < (↑l.length : Int))))
      (onSome (elemAt l i) none fun (o : List AV) =>
        onCons o none fun (x : AV) (l_1 : List AV) =>
          onSome (dec1s [x]) none fun (o : ByteArray) =>
            branch (AV.bool (shortS o))
              (if
                  ((fun (s : ByteArray) (st : St) =>
                                (AV.lg st.tk.length 1 (rb (textBytes s)),
                                  St.mk st.objs (st.tk ++ [(1, (textBytes s).length)])))
                              o (St.mk os tk)).snd.tk[t]? =
                      some (1, lo.length) ∧
                    (lo.length + (rb (textBytes o)).length) * 1 ≤ 140737488355328 then
                loopRun (f20_l0.run F) [3, 9, 10, 11] K n
                  (Env.mk 21
                    [(3, AV.lg t 1 (lo ++ rb (textBytes o))), (9, AV.sl 1 f l), (10, AV.int IntKind.i64 (↑l.length : Int)),
                      (11, AV.int IntKind.i64 (IntKind.i64.wrap (i + 1)))])
                  (St.mk os
                    ((St.mk os (tk ++ [(1, (textBytes o).length)])).tk.set t (1, lo.length + (rb (textBytes o)).length)))
              else none)
              none)
      (K (AX.exit 0) (Env.mk 21 [(3, AV.lg t 1 lo)]) (St.mk os tk)) := by kernel_rfl

theorem tx_round (F n t : Nat) (K : Cont) (f : Bool) (i : Int) (lo l : List (List AV)) (s : ByteArray) (os : List Ob) (tk : List (Nat × Nat)) (h0 : elemAt l i = some [.str s]) :
    (loopRun (f20_l0.run F) [3, 9, 10, 11] K n.succ (Env.mk 21 [(3, .lg t 1 lo), (9, .sl 1 f l), (10, .int .i64 l.length), (11, .int .i64 i)]) ⟨os, tk⟩ : Ans) =
    branch (AV.bool (decide (i < (↑l.length : Int))))
      (branch (AV.bool (shortS s))
        (if
            ((fun (s : ByteArray) (st : St) =>
                          (AV.lg st.tk.length 1 (rb (textBytes s)), St.mk st.objs (st.tk ++ [(1, (textBytes s).length)])))
                        s (St.mk os tk)).snd.tk[t]? =
                some (1, lo.length) ∧
              (lo.length + (rb (textBytes s)).length) * 1 ≤ 140737488355328 then
          loopRun (f20_l0.run F) [3, 9, 10, 11] K n
            (Env.mk 21
              [(3, AV.lg t 1 (lo ++ rb (textBytes s))), (9, AV.sl 1 f l), (10, AV.int IntKind.i64 (↑l.length : Int)),
                (11, AV.int IntKind.i64 (IntKind.i64.wrap (i + 1)))])
            (St.mk os ((St.mk os (tk ++ [(1, (textBytes s).length)])).tk.set t (1, lo.length + (rb (textBytes s)).length)))
        else none)
        none)
      (K (AX.exit 0) (Env.mk 21 [(3, AV.lg t 1 lo)]) (St.mk os tk)) := by
  rw [tx_round_raw F n t K f i lo l s os tk, h0]
  kernel_rfl

theorem tx_end_raw (F n t : Nat) (K : Cont) (f : Bool) (i : Int) (lo l : List (List AV)) (st : St) :
    (loopRun (f20_l0.run F) [3, 9, 10, 11] K n.succ (Env.mk 21 [(3, .lg t 1 lo), (9, .sl 1 f l), (10, .int .i64 l.length), (11, .int .i64 i)]) st : Ans) =
    branch (AV.bool (decide (i < (↑l.length : Int))))
      (onSome (elemAt l i) none fun (o : List AV) =>
        onCons o none fun (x : AV) (l_1 : List AV) =>
          onSome (dec1s [x]) none fun (o : ByteArray) =>
            branch (AV.bool (shortS o))
              (if
                  ((fun (s : ByteArray) (st : St) =>
                                (AV.lg st.tk.length 1 (rb (textBytes s)),
                                  St.mk st.objs (st.tk ++ [(1, (textBytes s).length)])))
                              o st).snd.tk[t]? =
                      some (1, lo.length) ∧
                    (lo.length + (rb (textBytes o)).length) * 1 ≤ 140737488355328 then
                loopRun (f20_l0.run F) [3, 9, 10, 11] K n
                  (Env.mk 21
                    [(3, AV.lg t 1 (lo ++ rb (textBytes o))), (9, AV.sl 1 f l), (10, AV.int IntKind.i64 (↑l.length : Int)),
                      (11, AV.int IntKind.i64 (IntKind.i64.wrap (i + 1)))])
                  (St.mk (St.mk st.objs (st.tk ++ [(1, (textBytes o).length)])).objs
                    ((St.mk st.objs (st.tk ++ [(1, (textBytes o).length)])).tk.set t
                      (1, lo.length + (rb (textBytes o)).length)))
              else none)
              none)
      (K (AX.exit 0) (Env.mk 21 [(3, AV.lg t 1 lo)]) st) := by kernel_rfl

theorem tx_end (F n t : Nat) (K : Cont) (f : Bool) (i : Int) (lo l : List (List AV)) (st : St) (h0 : decide (i < (l.length : Int)) = false) :
    (loopRun (f20_l0.run F) [3, 9, 10, 11] K n.succ (Env.mk 21 [(3, .lg t 1 lo), (9, .sl 1 f l), (10, .int .i64 l.length), (11, .int .i64 i)]) st : Ans) =
    K (AX.exit 0) (Env.mk 21 [(3, AV.lg t 1 lo)]) st := by
  rw [tx_end_raw F n t K f i lo l st, h0]
  kernel_rfl

theorem tx_out (F t : Nat) (lo : List (List AV)) (st : St) :
    ((Cont.block 0 (Cont.then (f20_r0.run F (f20.leaveK Fun.done)) (f20.leaveK Fun.done))) (.exit 0) (Env.mk 21 [(3, .lg t 1 lo)]) st : Ans) =
    some (Fin.ret (AV.lg t 1 lo), st) := by kernel_rfl

theorem rx_nil (F : Nat) (st : St) :
    (f21.run F.succ [.nilsl] st : Ans) =
    some (Fin.ret (AV.lg st.tk.length 1 [[AV.int IntKind.u8 0]]), St.mk st.objs (st.tk ++ [(1, 1)])) := by kernel_rfl

theorem rx_round_raw (F n t : Nat) (K : Cont) (f : Bool) (i : Int) (lo l : List (List AV)) (s : ByteArray) (os : List Ob) (tk : List (Nat × Nat)) :
    (loopRun (f21_l0.run F) [0, 3, 4] K n.succ (Env.mk 22 [(0, .sl 1 f l), (3, .lg t 1 lo), (4, .int .i64 i)]) ⟨os, tk⟩ : Ans) =
    branch (AV.bool (decide (i < (↑l.length : Int))))
      (onSome (elemAt l i) none fun (o : List AV) =>
        onCons o none fun (x : AV) (l_1 : List AV) =>
          onSome (dec1s [x]) none fun (o : ByteArray) =>
            branch (AV.bool (shortS o))
              (if
                  ((fun (s : ByteArray) (st : St) =>
                                (AV.lg st.tk.length 1 (rb (textBytes s)),
                                  St.mk st.objs (st.tk ++ [(1, (textBytes s).length)])))
                              o (St.mk os tk)).snd.tk[t]? =
                      some (1, lo.length) ∧
                    (lo.length + (rb (textBytes o)).length) * 1 ≤ 140737488355328 then
                loopRun (f21_l0.run F) [0, 3, 4] K n
                  (Env.mk 22
                    [(0, AV.sl 1 f l), (3, AV.lg t 1 (lo ++ rb (textBytes o))),
                      (4, AV.int IntKind.i64 (IntKind.i64.wrap (i + 1)))])
                  (St.mk os
                    ((St.mk os (tk ++ [(1, (textBytes o).length)])).tk.set t (1, lo.length + (rb (textBytes o)).length)))
              else none)
              none)
      (K (AX.exit 0) (Env.mk 22 [(3, AV.lg t 1 lo)]) (St.mk os tk)) := by kernel_rfl

theorem rx_round (F n t : Nat) (K : Cont) (f : Bool) (i : Int) (lo l : List (List AV)) (s : ByteArray) (os : List Ob) (tk : List (Nat × Nat)) (h0 : elemAt l i = some [.str s]) :
    (loopRun (f21_l0.run F) [0, 3, 4] K n.succ (Env.mk 22 [(0, .sl 1 f l), (3, .lg t 1 lo), (4, .int .i64 i)]) ⟨os, tk⟩ : Ans) =
    branch (AV.bool (decide (i < (↑l.length : Int))))
      (branch (AV.bool (shortS s))
        (if
            ((fun (s : ByteArray) (st : St) =>
                          (AV.lg st.tk.length 1 (rb (textBytes s)), St.mk st.objs (st.tk ++ [(1, (textBytes s).length)])))
                        s (St.mk os tk)).snd.tk[t]? =
                some (1, lo.length) ∧
              (lo.length + (rb (textBytes s)).length) * 1 ≤ 140737488355328 then
          loopRun (f21_l0.run F) [0, 3, 4] K n
            (Env.mk 22
              [(0, AV.sl 1 f l), (3, AV.lg t 1 (lo ++ rb (textBytes s))),
                (4, AV.int IntKind.i64 (IntKind.i64.wrap (i + 1)))])
            (St.mk os ((St.mk os (tk ++ [(1, (textBytes s).length)])).tk.set t (1, lo.length + (rb (textBytes s)).length)))
        else none)
        none)
      (K (AX.exit 0) (Env.mk 22 [(3, AV.lg t 1 lo)]) (St.mk os tk)) := by
  rw [rx_round_raw F n t K f i lo l s os tk, h0]
  kernel_rfl

theorem rx_end_raw (F n t : Nat) (K : Cont) (f : Bool) (i : Int) (lo l : List (List AV)) (st : St) :
    (loopRun (f21_l0.run F) [0, 3, 4] K n.succ (Env.mk 22 [(0, .sl 1 f l), (3, .lg t 1 lo), (4, .int .i64 i)]) st : Ans) =
    branch (AV.bool (decide (i < (↑l.length : Int))))
      (onSome (elemAt l i) none fun (o : List AV) =>
        onCons o none fun (x : AV) (l_1 : List AV) =>
          onSome (dec1s [x]) none fun (o : ByteArray) =>
            branch (AV.bool (shortS o))
              (if
                  ((fun (s : ByteArray) (st : St) =>
                                (AV.lg st.tk.length 1 (rb (textBytes s)),
                                  St.mk st.objs (st.tk ++ [(1, (textBytes s).length)])))
                              o st).snd.tk[t]? =
                      some (1, lo.length) ∧
                    (lo.length + (rb (textBytes o)).length) * 1 ≤ 140737488355328 then
                loopRun (f21_l0.run F) [0, 3, 4] K n
                  (Env.mk 22
                    [(0, AV.sl 1 f l), (3, AV.lg t 1 (lo ++ rb (textBytes o))),
                      (4, AV.int IntKind.i64 (IntKind.i64.wrap (i + 1)))])
                  (St.mk (St.mk st.objs (st.tk ++ [(1, (textBytes o).length)])).objs
                    ((St.mk st.objs (st.tk ++ [(1, (textBytes o).length)])).tk.set t
                      (1, lo.length + (rb (textBytes o)).length)))
              else none)
              none)
      (K (AX.exit 0) (Env.mk 22 [(3, AV.lg t 1 lo)]) st) := by kernel_rfl

theorem rx_end (F n t : Nat) (K : Cont) (f : Bool) (i : Int) (lo l : List (List AV)) (st : St) (h0 : decide (i < (l.length : Int)) = false) :
    (loopRun (f21_l0.run F) [0, 3, 4] K n.succ (Env.mk 22 [(0, .sl 1 f l), (3, .lg t 1 lo), (4, .int .i64 i)]) st : Ans) =
    K (AX.exit 0) (Env.mk 22 [(3, AV.lg t 1 lo)]) st := by
  rw [rx_end_raw F n t K f i lo l st, h0]
  kernel_rfl

theorem rx_out (F t : Nat) (lo : List (List AV)) (st : St) :
    ((Cont.block 0 (Cont.then (f21_r0.run F (f21.leaveK Fun.done)) (f21.leaveK Fun.done))) (.exit 0) (Env.mk 22 [(3, .lg t 1 lo)]) st : Ans) =
    some (Fin.ret (AV.lg t 1 lo), st) := by kernel_rfl

theorem st_run (F : Nat) (f f' : Bool) (l l' : List (List AV)) (st : St) :
    (f22.run F [.sl 1 f l, .sl 1 f' l'] st : Ans) =
    branch (AV.bool ((↑l.length : Int) != (↑l'.length : Int))) (some (Fin.ret (AV.bool false), st))
      (loopRun (f22_l0.run F) [0, 1, 5]
        (Cont.block 0 (Cont.then (f22_r0.run F (f22.leaveK Fun.done)) (f22.leaveK Fun.done))) F
        (Env.mk 26 [(0, AV.sl 1 f l), (1, AV.sl 1 f' l'), (5, AV.int IntKind.i64 0)]) st) := by kernel_rfl

theorem st_nn (F : Nat) (st : St) :
    (f22.run F.succ [.nilsl, .nilsl] st : Ans) =
    some (Fin.ret (AV.bool true), st) := by kernel_rfl

theorem st_ns (F : Nat) (f : Bool) (l : List (List AV)) (st : St) :
    (f22.run F.succ [.nilsl, .sl 1 f l] st : Ans) =
    branch (AV.bool (0 != (↑l.length : Int))) (some (Fin.ret (AV.bool false), st)) (some (Fin.ret (AV.bool true), st)) := by kernel_rfl

theorem st_sn (F : Nat) (f : Bool) (l : List (List AV)) (st : St) :
    (f22.run F.succ [.sl 1 f l, .nilsl] st : Ans) =
    branch (AV.bool ((↑l.length : Int) != 0)) (some (Fin.ret (AV.bool false), st))
      (branch (AV.bool (decide (0 < (↑l.length : Int))))
        (onSome (elemAt l 0) none fun (o : List AV) => onCons o none fun (x : AV) (l : List AV) => none)
        (some (Fin.ret (AV.bool true), st))) := by kernel_rfl

theorem st_round_raw (F n : Nat) (K : Cont) (i : Int) (a b : ByteArray) (f f' : Bool) (l l' : List (List AV)) (st : St) :
    (loopRun (f22_l0.run F) [0, 1, 5] K n.succ (Env.mk 26 [(0, .sl 1 f l), (1, .sl 1 f' l'), (5, .int .i64 i)]) st : Ans) =
    branch (AV.bool (decide (i < (↑l.length : Int))))
      (onSome (elemAt l i) none fun (o : List AV) =>
        onCons o none fun (x : AV) (l_1 : List AV) =>
          onSome (elemAt l' i) none fun (o : List AV) =>
            onCons o none fun (x_1 : AV) (l_2 : List AV) =>
              onStr x fun (a : ByteArray) =>
                onStr x_1 fun (a_1 : ByteArray) =>
                  branch (AV.bool !a.toList == a_1.toList) (K AX.ret (Env.mk 26 [(4, AV.bool false)]) st)
                    (loopRun (f22_l0.run F) [0, 1, 5] K n
                      (Env.mk 26 [(0, AV.sl 1 f l), (1, AV.sl 1 f' l'), (5, AV.int IntKind.i64 (IntKind.i64.wrap (i + 1)))])
                      st))
      (K (AX.exit 0) (Env.mk 26 []) st) := by kernel_rfl

theorem st_round (F n : Nat) (K : Cont) (i : Int) (a b : ByteArray) (f f' : Bool) (l l' : List (List AV)) (st : St) (h0 : elemAt l i = some [.str a]) (h1 : elemAt l' i = some [.str b]) :
    (loopRun (f22_l0.run F) [0, 1, 5] K n.succ (Env.mk 26 [(0, .sl 1 f l), (1, .sl 1 f' l'), (5, .int .i64 i)]) st : Ans) =
    branch (AV.bool (decide (i < (↑l.length : Int))))
      (branch (AV.bool !a.toList == b.toList) (K AX.ret (Env.mk 26 [(4, AV.bool false)]) st)
        (loopRun (f22_l0.run F) [0, 1, 5] K n
          (Env.mk 26 [(0, AV.sl 1 f l), (1, AV.sl 1 f' l'), (5, AV.int IntKind.i64 (IntKind.i64.wrap (i + 1)))]) st))
      (K (AX.exit 0) (Env.mk 26 []) st) := by
  rw [st_round_raw F n K i a b f f' l l' st, h0, h1]
  kernel_rfl

theorem st_end_raw (F n : Nat) (K : Cont) (i : Int) (f f' : Bool) (l l' : List (List AV)) (st : St) :
    (loopRun (f22_l0.run F) [0, 1, 5] K n.succ (Env.mk 26 [(0, .sl 1 f l), (1, .sl 1 f' l'), (5, .int .i64 i)]) st : Ans) =
    branch (AV.bool (decide (i < (↑l.length : Int))))
      (onSome (elemAt l i) none fun (o : List AV) =>
        onCons o none fun (x : AV) (l_1 : List AV) =>
          onSome (elemAt l' i) none fun (o : List AV) =>
            onCons o none fun (x_1 : AV) (l_2 : List AV) =>
              onStr x fun (a : ByteArray) =>
                onStr x_1 fun (a_1 : ByteArray) =>
                  branch (AV.bool !a.toList == a_1.toList) (K AX.ret (Env.mk 26 [(4, AV.bool false)]) st)
                    (loopRun (f22_l0.run F) [0, 1, 5] K n
                      (Env.mk 26 [(0, AV.sl 1 f l), (1, AV.sl 1 f' l'), (5, AV.int IntKind.i64 (IntKind.i64.wrap (i + 1)))])
                      st))
      (K (AX.exit 0) (Env.mk 26 []) st) := by kernel_rfl

theorem st_end (F n : Nat) (K : Cont) (i : Int) (f f' : Bool) (l l' : List (List AV)) (st : St) (h0 : decide (i < (l.length : Int)) = false) :
    (loopRun (f22_l0.run F) [0, 1, 5] K n.succ (Env.mk 26 [(0, .sl 1 f l), (1, .sl 1 f' l'), (5, .int .i64 i)]) st : Ans) =
    K (AX.exit 0) (Env.mk 26 []) st := by
  rw [st_end_raw F n K i f f' l l' st, h0]
  kernel_rfl

theorem st_out (F : Nat) (st : St) :
    ((Cont.block 0 (Cont.then (f22_r0.run F (f22.leaveK Fun.done)) (f22.leaveK Fun.done))) (.exit 0) (Env.mk 26 []) st : Ans) =
    some (Fin.ret (AV.bool true), st) := by kernel_rfl

theorem st_ret (F : Nat) (st : St) :
    ((Cont.block 0 (Cont.then (f22_r0.run F (f22.leaveK Fun.done)) (f22.leaveK Fun.done))) .ret (Env.mk 26 [(4, .bool false)]) st : Ans) =
    some (Fin.ret (AV.bool false), st) := by kernel_rfl

end Go.Proofs.Ytjdpfblmhahfkaa.V
