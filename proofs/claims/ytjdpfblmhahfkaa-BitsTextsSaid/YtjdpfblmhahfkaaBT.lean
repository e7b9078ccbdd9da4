/- What the functions' runs come to; the right sides were printed by a tool, Lean checks them. -/
import Derived.Test.YtjdpfblmhahfkaaBS
set_option linter.unusedVariables false
set_option maxRecDepth 100000
namespace Go.Proofs.Ytjdpfblmhahfkaa.V
open Go Go.V Go.RowKit

theorem writes_run (F : Nat) (n : Int) (s : ByteArray) (l : List (List AV)) :
    (f5.run F [.int .i64 n, .str s, .sl 1 false l] ⟨[], []⟩ : Ans) =
    branch (AV.bool (decide ((↑s.size : Int) > 5000))) (some (Fin.ret (AV.bool true), St.mk [] []))
      (branch (AV.bool (decide ((↑l.length : Int) > 200))) (some (Fin.ret (AV.bool true), St.mk [] []))
        (loopRun (f5_l0.run F) [0, 1, 2, 7]
          (Cont.block 0 (Cont.then (f5_r0.run F (f5.leaveK Fun.done)) (f5.leaveK Fun.done))) F
          (Env.mk 49 [(0, AV.int IntKind.i64 n), (1, AV.str s), (2, AV.sl 1 false l), (7, AV.int IntKind.i64 0)])
          (St.mk [] []))) := by kernel_rfl

theorem writes_nil (n : Int) (s : ByteArray) :
    (f5.run 20 [.int .i64 n, .str s, .nilsl] ⟨[], []⟩ : Ans) =
    branch (AV.bool (decide ((↑s.size : Int) > 5000))) (some (Fin.ret (AV.bool true), St.mk [] []))
      (branch (AV.bool (i64B n))
        (branch (AV.bool (i64B n))
          (branch
            (AV.bool
              (fit (Br.sl false (rb (intBytes n)), Br.sl false (rb (intBytes n))).fst &&
                okR (Br.sl false (rb (intBytes n)), Br.sl false (rb (intBytes n))).snd.list))
            (branch
              (AV.bool
                (sameRows (iR (Br.sl false (rb (intBytes n)), Br.sl false (rb (intBytes n))).fst.list)
                  (iR (Br.sl false (rb (intBytes n)), Br.sl false (rb (intBytes n))).snd.list)))
              (branch (AV.bool (shortS s))
                (branch (AV.bool (shortS s))
                  (branch
                    (AV.bool
                      (fit (Br.sl false (rb (textBytes s)), Br.sl false (rb (textBytes s))).fst &&
                        okR (Br.sl false (rb (textBytes s)), Br.sl false (rb (textBytes s))).snd.list))
                    (branch
                      (AV.bool
                        (sameRows (iR (Br.sl false (rb (textBytes s)), Br.sl false (rb (textBytes s))).fst.list)
                          (iR (Br.sl false (rb (textBytes s)), Br.sl false (rb (textBytes s))).snd.list)))
                      (some
                        (Fin.ret (AV.bool true),
                          St.mk []
                            [(1, (intBytes n).length), (1, (intBytes n).length), (1, (textBytes s).length),
                              (1, (textBytes s).length)]))
                      (some
                        (Fin.ret (AV.bool false),
                          St.mk []
                            [(1, (intBytes n).length), (1, (intBytes n).length), (1, (textBytes s).length),
                              (1, (textBytes s).length)])))
                    none)
                  none)
                none)
              (some (Fin.ret (AV.bool false), St.mk [] [(1, (intBytes n).length), (1, (intBytes n).length)])))
            none)
          none)
        none) := by kernel_rfl

theorem ltexts_run (F : Nat) (l : List (List AV)) :
    (f6.run F [.sl 1 false l] ⟨[], []⟩ : Ans) =
    branch (AV.bool (decide ((↑l.length : Int) > 200))) (some (Fin.ret (AV.bool true), St.mk [] []))
      (branch (AV.bool (i64B (↑l.length : Int)))
        (loopRun (f6_l0.run F) [0, 3, 4] (Cont.block 0 (Cont.then (f6_r0.run F (f6.leaveK Fun.done)) (f6.leaveK Fun.done)))
          F (Env.mk 36 [(0, AV.sl 1 false l), (3, AV.lg 0 1 (rb (intBytes (↑l.length : Int)))), (4, AV.int IntKind.i64 0)])
          (St.mk [] [(1, (intBytes (↑l.length : Int)).length)]))
        none) := by kernel_rfl

theorem ltexts_nil  :
    (f6.run 20 [.nilsl] ⟨[], []⟩ : Ans) =
    some (Fin.ret (AV.bool true), St.mk [] [(1, 1)]) := by kernel_rfl

theorem wr_round_raw (F k : Nat) (K : Cont) (n i : Int) (s t : ByteArray) (l : List (List AV)) (st : St) :
    (loopRun (f5_l0.run F) [0, 1, 2, 7] K k.succ (Env.mk 49 [(0, .int .i64 n), (1, .str s), (2, .sl 1 false l), (7, .int .i64 i)]) st : Ans) =
    branch (AV.bool (decide (i < (↑l.length : Int))))
      (onSome (elemAt l i) none fun (o : List AV) =>
        onCons o none fun (x : AV) (l_1 : List AV) =>
          onStr x fun (a : ByteArray) =>
            branch (AV.bool (decide ((↑a.size : Int) > 5000))) (K AX.ret (Env.mk 49 [(6, AV.bool true)]) st)
              (loopRun (f5_l0.run F) [0, 1, 2, 7] K k
                (Env.mk 49
                  [(0, AV.int IntKind.i64 n), (1, AV.str s), (2, AV.sl 1 false l),
                    (7, AV.int IntKind.i64 (IntKind.i64.wrap (i + 1)))])
                st))
      (K (AX.exit 0) (Env.mk 49 [(0, AV.int IntKind.i64 n), (1, AV.str s), (2, AV.sl 1 false l)]) st) := by kernel_rfl

theorem wr_round (F k : Nat) (K : Cont) (n i : Int) (s t : ByteArray) (l : List (List AV)) (st : St) (h0 : elemAt l i = some [.str t]) :
    (loopRun (f5_l0.run F) [0, 1, 2, 7] K k.succ (Env.mk 49 [(0, .int .i64 n), (1, .str s), (2, .sl 1 false l), (7, .int .i64 i)]) st : Ans) =
    branch (AV.bool (decide (i < (↑l.length : Int))))
      (branch (AV.bool (decide ((↑t.size : Int) > 5000))) (K AX.ret (Env.mk 49 [(6, AV.bool true)]) st)
        (loopRun (f5_l0.run F) [0, 1, 2, 7] K k
          (Env.mk 49
            [(0, AV.int IntKind.i64 n), (1, AV.str s), (2, AV.sl 1 false l),
              (7, AV.int IntKind.i64 (IntKind.i64.wrap (i + 1)))])
          st))
      (K (AX.exit 0) (Env.mk 49 [(0, AV.int IntKind.i64 n), (1, AV.str s), (2, AV.sl 1 false l)]) st) := by
  rw [wr_round_raw F k K n i s t l st, h0]
  kernel_rfl

theorem wr_end_raw (F k : Nat) (K : Cont) (n i : Int) (s : ByteArray) (l : List (List AV)) (st : St) :
    (loopRun (f5_l0.run F) [0, 1, 2, 7] K k.succ (Env.mk 49 [(0, .int .i64 n), (1, .str s), (2, .sl 1 false l), (7, .int .i64 i)]) st : Ans) =
    branch (AV.bool (decide (i < (↑l.length : Int))))
      (onSome (elemAt l i) none fun (o : List AV) =>
        onCons o none fun (x : AV) (l_1 : List AV) =>
          onStr x fun (a : ByteArray) =>
            branch (AV.bool (decide ((↑a.size : Int) > 5000))) (K AX.ret (Env.mk 49 [(6, AV.bool true)]) st)
              (loopRun (f5_l0.run F) [0, 1, 2, 7] K k
                (Env.mk 49
                  [(0, AV.int IntKind.i64 n), (1, AV.str s), (2, AV.sl 1 false l),
                    (7, AV.int IntKind.i64 (IntKind.i64.wrap (i + 1)))])
                st))
      (K (AX.exit 0) (Env.mk 49 [(0, AV.int IntKind.i64 n), (1, AV.str s), (2, AV.sl 1 false l)]) st) := by kernel_rfl

theorem wr_end (F k : Nat) (K : Cont) (n i : Int) (s : ByteArray) (l : List (List AV)) (st : St) (h0 : decide (i < (l.length : Int)) = false) :
    (loopRun (f5_l0.run F) [0, 1, 2, 7] K k.succ (Env.mk 49 [(0, .int .i64 n), (1, .str s), (2, .sl 1 false l), (7, .int .i64 i)]) st : Ans) =
    K (AX.exit 0) (Env.mk 49 [(0, AV.int IntKind.i64 n), (1, AV.str s), (2, AV.sl 1 false l)]) st := by
  rw [wr_end_raw F k K n i s l st, h0]
  kernel_rfl

theorem lt_round_raw (F k t : Nat) (K : Cont) (i : Int) (s : ByteArray) (lo l : List (List AV)) (os : List Ob) (tk : List (Nat × Nat)) :
    (loopRun (f6_l0.run F) [0, 3, 4] K k.succ (Env.mk 36 [(0, .sl 1 false l), (3, .lg t 1 lo), (4, .int .i64 i)]) ⟨os, tk⟩ : Ans) =
    branch (AV.bool (decide (i < (↑l.length : Int))))
      (onSome (elemAt l i) none fun (o : List AV) =>
        onCons o none fun (x : AV) (l_1 : List AV) =>
          onStr x fun (a : ByteArray) =>
            branch (AV.bool (decide ((↑a.size : Int) > 5000))) (K AX.ret (Env.mk 36 [(2, AV.bool true)]) (St.mk os tk))
              (onSome (elemAt l i) none fun (o : List AV) =>
                onCons o none fun (x : AV) (l_2 : List AV) =>
                  onSome (dec1s [x]) none fun (o : ByteArray) =>
                    branch (AV.bool (shortS o))
                      (if
                          ((fun (s : ByteArray) (st : St) =>
                                        (AV.lg st.tk.length 1 (rb (textBytes s)),
                                          St.mk st.objs (st.tk ++ [(1, (textBytes s).length)])))
                                      o (St.mk os tk)).snd.tk[t]? =
                              some (1, lo.length) ∧
                            (lo.length + (rb (textBytes o)).length) * 1 ≤ 140737488355328 then
                        loopRun (f6_l0.run F) [0, 3, 4] K k
                          (Env.mk 36
                            [(0, AV.sl 1 false l), (3, AV.lg t 1 (lo ++ rb (textBytes o))),
                              (4, AV.int IntKind.i64 (IntKind.i64.wrap (i + 1)))])
                          (St.mk os
                            ((St.mk os (tk ++ [(1, (textBytes o).length)])).tk.set t
                              (1, lo.length + (rb (textBytes o)).length)))
                      else none)
                      none))
      (K (AX.exit 0) (Env.mk 36 [(0, AV.sl 1 false l), (3, AV.lg t 1 lo)]) (St.mk os tk)) := by kernel_rfl

theorem lt_round (F k t : Nat) (K : Cont) (i : Int) (s : ByteArray) (lo l : List (List AV)) (os : List Ob) (tk : List (Nat × Nat)) (h0 : elemAt l i = some [.str s]) :
    (loopRun (f6_l0.run F) [0, 3, 4] K k.succ (Env.mk 36 [(0, .sl 1 false l), (3, .lg t 1 lo), (4, .int .i64 i)]) ⟨os, tk⟩ : Ans) =
    branch (AV.bool (decide (i < (↑l.length : Int))))
      (branch (AV.bool (decide ((↑s.size : Int) > 5000))) (K AX.ret (Env.mk 36 [(2, AV.bool true)]) (St.mk os tk))
        (branch (AV.bool (shortS s))
          (if
              ((fun (s : ByteArray) (st : St) =>
                            (AV.lg st.tk.length 1 (rb (textBytes s)), St.mk st.objs (st.tk ++ [(1, (textBytes s).length)])))
                          s (St.mk os tk)).snd.tk[t]? =
                  some (1, lo.length) ∧
                (lo.length + (rb (textBytes s)).length) * 1 ≤ 140737488355328 then
            loopRun (f6_l0.run F) [0, 3, 4] K k
              (Env.mk 36
                [(0, AV.sl 1 false l), (3, AV.lg t 1 (lo ++ rb (textBytes s))),
                  (4, AV.int IntKind.i64 (IntKind.i64.wrap (i + 1)))])
              (St.mk os
                ((St.mk os (tk ++ [(1, (textBytes s).length)])).tk.set t (1, lo.length + (rb (textBytes s)).length)))
          else none)
          none))
      (K (AX.exit 0) (Env.mk 36 [(0, AV.sl 1 false l), (3, AV.lg t 1 lo)]) (St.mk os tk)) := by
  rw [lt_round_raw F k t K i s lo l os tk, h0]
  kernel_rfl

theorem lt_end_raw (F k t : Nat) (K : Cont) (i : Int) (lo l : List (List AV)) (st : St) :
    (loopRun (f6_l0.run F) [0, 3, 4] K k.succ (Env.mk 36 [(0, .sl 1 false l), (3, .lg t 1 lo), (4, .int .i64 i)]) st : Ans) =
    branch (AV.bool (decide (i < (↑l.length : Int))))
      (onSome (elemAt l i) none fun (o : List AV) =>
        onCons o none fun (x : AV) (l_1 : List AV) =>
          onStr x fun (a : ByteArray) =>
            branch (AV.bool (decide ((↑a.size : Int) > 5000))) (K AX.ret (Env.mk 36 [(2, AV.bool true)]) st)
              (onSome (elemAt l i) none fun (o : List AV) =>
                onCons o none fun (x : AV) (l_2 : List AV) =>
                  onSome (dec1s [x]) none fun (o : ByteArray) =>
                    branch (AV.bool (shortS o))
                      (if
                          ((fun (s : ByteArray) (st : St) =>
                                        (AV.lg st.tk.length 1 (rb (textBytes s)),
                                          St.mk st.objs (st.tk ++ [(1, (textBytes s).length)])))
                                      o st).snd.tk[t]? =
                              some (1, lo.length) ∧
                            (lo.length + (rb (textBytes o)).length) * 1 ≤ 140737488355328 then
                        loopRun (f6_l0.run F) [0, 3, 4] K k
                          (Env.mk 36
                            [(0, AV.sl 1 false l), (3, AV.lg t 1 (lo ++ rb (textBytes o))),
                              (4, AV.int IntKind.i64 (IntKind.i64.wrap (i + 1)))])
                          (St.mk (St.mk st.objs (st.tk ++ [(1, (textBytes o).length)])).objs
                            ((St.mk st.objs (st.tk ++ [(1, (textBytes o).length)])).tk.set t
                              (1, lo.length + (rb (textBytes o)).length)))
                      else none)
                      none))
      (K (AX.exit 0) (Env.mk 36 [(0, AV.sl 1 false l), (3, AV.lg t 1 lo)]) st) := by kernel_rfl

theorem lt_end (F k t : Nat) (K : Cont) (i : Int) (lo l : List (List AV)) (st : St) (h0 : decide (i < (l.length : Int)) = false) :
    (loopRun (f6_l0.run F) [0, 3, 4] K k.succ (Env.mk 36 [(0, .sl 1 false l), (3, .lg t 1 lo), (4, .int .i64 i)]) st : Ans) =
    K (AX.exit 0) (Env.mk 36 [(0, AV.sl 1 false l), (3, AV.lg t 1 lo)]) st := by
  rw [lt_end_raw F k t K i lo l st, h0]
  kernel_rfl

theorem wr_ret (F : Nat) (st : St) :
    ((Cont.block 0 (Cont.then (f5_r0.run F (f5.leaveK Fun.done)) (f5.leaveK Fun.done))) .ret (Env.mk 49 [(6, .bool true)]) st : Ans) =
    some (Fin.ret (AV.bool true), st) := by kernel_rfl

theorem wr_out (F : Nat) (n : Int) (s : ByteArray) (l : List (List AV)) :
    ((Cont.block 0 (Cont.then (f5_r0.run F (f5.leaveK Fun.done)) (f5.leaveK Fun.done))) (.exit 0) (Env.mk 49 [(0, .int .i64 n), (1, .str s), (2, .sl 1 false l)]) ⟨[], []⟩ : Ans) =
    branch (AV.bool (i64B n))
      (branch (AV.bool (i64B n))
        (branch
          (AV.bool
            (fit (Br.sl false (rb (intBytes n)), Br.sl false (rb (intBytes n))).fst &&
              okR (Br.sl false (rb (intBytes n)), Br.sl false (rb (intBytes n))).snd.list))
          (branch
            (AV.bool
              (sameRows (iR (Br.sl false (rb (intBytes n)), Br.sl false (rb (intBytes n))).fst.list)
                (iR (Br.sl false (rb (intBytes n)), Br.sl false (rb (intBytes n))).snd.list)))
            (branch (AV.bool (shortS s))
              (branch (AV.bool (shortS s))
                (branch
                  (AV.bool
                    (fit (Br.sl false (rb (textBytes s)), Br.sl false (rb (textBytes s))).fst &&
                      okR (Br.sl false (rb (textBytes s)), Br.sl false (rb (textBytes s))).snd.list))
                  (branch
                    (AV.bool
                      (sameRows (iR (Br.sl false (rb (textBytes s)), Br.sl false (rb (textBytes s))).fst.list)
                        (iR (Br.sl false (rb (textBytes s)), Br.sl false (rb (textBytes s))).snd.list)))
                    (branch (AV.bool (fitT (Br.sl false l)))
                      (branch (AV.bool (fitT (Br.sl false l)))
                        (branch
                          (AV.bool
                            (fit
                                (Br.sl false (rb (textsBytes (sR (Br.sl false l).list))),
                                    Br.sl false (rb (textsBytes (sR (Br.sl false l).list)))).fst &&
                              okR
                                (Br.sl false (rb (textsBytes (sR (Br.sl false l).list))),
                                      Br.sl false (rb (textsBytes (sR (Br.sl false l).list)))).snd.list))
                          (some
                            (Fin.ret
                                (AV.bool
                                  (sameRows
                                    (iR
                                      (Br.sl false (rb (textsBytes (sR (Br.sl false l).list))),
                                            Br.sl false (rb (textsBytes (sR (Br.sl false l).list)))).fst.list)
                                    (iR
                                      (Br.sl false (rb (textsBytes (sR (Br.sl false l).list))),
                                            Br.sl false (rb (textsBytes (sR (Br.sl false l).list)))).snd.list))),
                              St.mk []
                                [(1, (intBytes n).length), (1, (intBytes n).length), (1, (textBytes s).length),
                                  (1, (textBytes s).length)]))
                          none)
                        none)
                      none)
                    (some
                      (Fin.ret (AV.bool false),
                        St.mk []
                          [(1, (intBytes n).length), (1, (intBytes n).length), (1, (textBytes s).length),
                            (1, (textBytes s).length)])))
                  none)
                none)
              none)
            (some (Fin.ret (AV.bool false), St.mk [] [(1, (intBytes n).length), (1, (intBytes n).length)])))
          none)
        none)
      none := by kernel_rfl

theorem lt_ret (F : Nat) (st : St) :
    ((Cont.block 0 (Cont.then (f6_r0.run F (f6.leaveK Fun.done)) (f6.leaveK Fun.done))) .ret (Env.mk 36 [(2, .bool true)]) st : Ans) =
    some (Fin.ret (AV.bool true), st) := by kernel_rfl

theorem lt_out (F t : Nat) (lo l : List (List AV)) (st : St) :
    ((Cont.block 0 (Cont.then (f6_r0.run F (f6.leaveK Fun.done)) (f6.leaveK Fun.done))) (.exit 0) (Env.mk 36 [(0, .sl 1 false l), (3, .lg t 1 lo)]) st : Ans) =
    branch (AV.bool (fitT (Br.sl false l)))
      (branch (AV.bool (fit (Br.sl false (rb (textsBytes (sR (Br.sl false l).list))), Br.sl false lo).fst && okR lo))
        (some
          (Fin.ret
              (AV.bool
                (sameRows (iR (Br.sl false (rb (textsBytes (sR (Br.sl false l).list))), Br.sl false lo).fst.list) (iR lo))),
            st))
        none)
      none := by kernel_rfl

end Go.Proofs.Ytjdpfblmhahfkaa.V
