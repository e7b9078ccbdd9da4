/- Merged out of 2 texts: what the claim's code comes to, and why. -/
import Derived.Test.YtclghabbhpaafaaR66
/- What the functions' runs come to; the right sides were printed by a tool, Lean checks them. -/
set_option linter.unusedVariables false
set_option maxRecDepth 100000
namespace Go.Proofs.Ytclghabbhpaafaa.V
open Go Go.V Go.RowKit

theorem loads_run (F : Nat) (z : Bool) (l : List (List AV)) (n : Int) :
    (f5.run F [.ns z 1 l, .int .i64 n] ⟨[], []⟩ : Ans) =
    branch (AV.bool (decide ((↑l.length : Int) > (20000 : Int)))) (some (Fin.ret (AV.bool true), St.mk [] []))
      (branch (AV.bool (decide (n > (100 : Int))))
        (branch (AV.bool (decide (n ≤ (65536 : Int)))) (some (Fin.ret (AV.bool true), St.mk [] []))
          (branch (AV.bool (byOk l && apOk l.length 1))
            (branch (AV.bool (byOk l && true))
              (branch (AV.bool (decide ((1 : Int) ≤ n) && decide (n ≤ (65536 : Int))))
                (branch (AV.bool (byOk l && true))
                  (branch (AV.bool (decide ((1 : Int) ≤ n) && decide (n ≤ (65536 : Int))))
                    (branch (AV.bool (byOk l && byOk l))
                      (branch (AV.bool !nR l == nR l)
                        (some
                          (Fin.ret (AV.bool false),
                            St.mk
                              [dk0 (Dk.new n.toNat (nR l)), dk1 (Dk.new n.toNat (nR l)),
                                dk2 0 (Dk.new n.toNat (nR l)), dk3 (Dk.new n.toNat (nR l)),
                                rfA.ob 4 (Rf.new n.toNat (nR l)) 0,
                                rfA.ob 4 (Rf.new n.toNat (nR l)) 1,
                                rfA.ob 4 (Rf.new n.toNat (nR l)) 2,
                                rfA.ob 4 (Rf.new n.toNat (nR l)) 3]
                              []))
                        (onSome
                          (dkG 0 (dk0 (Dk.new n.toNat (nR l))) (dk1 (Dk.new n.toNat (nR l)))
                            (dk2 (St.mk [] []).objs.length (Dk.new n.toNat (nR l))) (dk3 (Dk.new n.toNat (nR l))))
                          none fun (o : Dk) =>
                          onSome
                            (rfA.G 4
                              [rfA.ob 4 (Rf.new n.toNat (nR l)) 0,
                                rfA.ob 4 (Rf.new n.toNat (nR l)) 1,
                                rfA.ob 4 (Rf.new n.toNat (nR l)) 2,
                                rfA.ob 4 (Rf.new n.toNat (nR l)) 3])
                            none fun (o_1 : Rf) =>
                            branch (AV.bool (cdec (Same o o_1) && true))
                              (some
                                (Fin.ret (AV.bool true),
                                  St.mk
                                    [dk0 (Dk.new n.toNat (nR l)), dk1 (Dk.new n.toNat (nR l)),
                                      dk2 0 (Dk.new n.toNat (nR l)), dk3 (Dk.new n.toNat (nR l)),
                                      rfA.ob 4 (Rf.new n.toNat (nR l)) 0,
                                      rfA.ob 4 (Rf.new n.toNat (nR l)) 1,
                                      rfA.ob 4 (Rf.new n.toNat (nR l)) 2,
                                      rfA.ob 4 (Rf.new n.toNat (nR l)) 3]
                                    []))
                              none))
                      none)
                    (some
                      (Fin.ret (AV.bool false),
                        St.mk
                          [dk0 (Dk.new n.toNat (nR l)), dk1 (Dk.new n.toNat (nR l)), dk2 0 (Dk.new n.toNat (nR l)),
                            dk3 (Dk.new n.toNat (nR l))]
                          [])))
                  none)
                (branch (AV.bool (byOk l && true))
                  (branch (AV.bool (decide ((1 : Int) ≤ n) && decide (n ≤ (65536 : Int))))
                    (some
                      (Fin.ret (AV.bool false),
                        St.mk
                          [rfA.ob 0 (Rf.new n.toNat (nR l)) 0,
                            rfA.ob 0 (Rf.new n.toNat (nR l)) 1,
                            rfA.ob 0 (Rf.new n.toNat (nR l)) 2,
                            rfA.ob 0 (Rf.new n.toNat (nR l)) 3]
                          []))
                    (branch (AV.bool (byOk l && byOk l))
                      (branch (AV.bool !nR l == nR l) (some (Fin.ret (AV.bool false), St.mk [] []))
                        (some (Fin.ret (AV.bool true), St.mk [] [])))
                      none))
                  none))
              none)
            none))
        (branch (AV.bool (byOk l && apOk l.length 1))
          (branch (AV.bool (byOk l && true))
            (branch (AV.bool (decide ((1 : Int) ≤ n) && decide (n ≤ (65536 : Int))))
              (branch (AV.bool (byOk l && true))
                (branch (AV.bool (decide ((1 : Int) ≤ n) && decide (n ≤ (65536 : Int))))
                  (branch (AV.bool (byOk l && byOk l))
                    (branch (AV.bool !nR l == nR l)
                      (some
                        (Fin.ret (AV.bool false),
                          St.mk
                            [dk0 (Dk.new n.toNat (nR l)), dk1 (Dk.new n.toNat (nR l)),
                              dk2 0 (Dk.new n.toNat (nR l)), dk3 (Dk.new n.toNat (nR l)),
                              rfA.ob 4 (Rf.new n.toNat (nR l)) 0,
                              rfA.ob 4 (Rf.new n.toNat (nR l)) 1,
                              rfA.ob 4 (Rf.new n.toNat (nR l)) 2,
                              rfA.ob 4 (Rf.new n.toNat (nR l)) 3]
                            []))
                      (onSome
                        (dkG 0 (dk0 (Dk.new n.toNat (nR l))) (dk1 (Dk.new n.toNat (nR l)))
                          (dk2 (St.mk [] []).objs.length (Dk.new n.toNat (nR l))) (dk3 (Dk.new n.toNat (nR l))))
                        none fun (o : Dk) =>
                        onSome
                          (rfA.G 4
                            [rfA.ob 4 (Rf.new n.toNat (nR l)) 0,
                              rfA.ob 4 (Rf.new n.toNat (nR l)) 1,
                              rfA.ob 4 (Rf.new n.toNat (nR l)) 2,
                              rfA.ob 4 (Rf.new n.toNat (nR l)) 3])
                          none fun (o_1 : Rf) =>
                          branch (AV.bool (cdec (Same o o_1) && true))
                            (some
                              (Fin.ret (AV.bool true),
                                St.mk
                                  [dk0 (Dk.new n.toNat (nR l)), dk1 (Dk.new n.toNat (nR l)),
                                    dk2 0 (Dk.new n.toNat (nR l)), dk3 (Dk.new n.toNat (nR l)),
                                    rfA.ob 4 (Rf.new n.toNat (nR l)) 0,
                                    rfA.ob 4 (Rf.new n.toNat (nR l)) 1,
                                    rfA.ob 4 (Rf.new n.toNat (nR l)) 2,
                                    rfA.ob 4 (Rf.new n.toNat (nR l)) 3]
                                  []))
                            none))
                    none)
                  (some
                    (Fin.ret (AV.bool false),
                      St.mk
                        [dk0 (Dk.new n.toNat (nR l)), dk1 (Dk.new n.toNat (nR l)), dk2 0 (Dk.new n.toNat (nR l)),
                          dk3 (Dk.new n.toNat (nR l))]
                        [])))
                none)
              (branch (AV.bool (byOk l && true))
                (branch (AV.bool (decide ((1 : Int) ≤ n) && decide (n ≤ (65536 : Int))))
                  (some
                    (Fin.ret (AV.bool false),
                      St.mk
                        [rfA.ob 0 (Rf.new n.toNat (nR l)) 0,
                          rfA.ob 0 (Rf.new n.toNat (nR l)) 1,
                          rfA.ob 0 (Rf.new n.toNat (nR l)) 2,
                          rfA.ob 0 (Rf.new n.toNat (nR l)) 3]
                        []))
                  (branch (AV.bool (byOk l && byOk l))
                    (branch (AV.bool !nR l == nR l) (some (Fin.ret (AV.bool false), St.mk [] []))
                      (some (Fin.ret (AV.bool true), St.mk [] [])))
                    none))
                none))
            none)
          none)) := by kernel_rfl

theorem calls_run (F : Nat) (z : Bool) (l : List (List AV)) (n : Int) :
    (f8.run F [.int .i64 n, .ns z 4 l] ⟨[], []⟩ : Ans) =
    branch (AV.bool (okCl l))
      (branch (AV.bool (greatB l)) (some (Fin.ret (AV.bool true), St.mk [] []))
        (branch (AV.bool (decide (n > (100 : Int))))
          (branch (AV.bool (decide (n ≤ (65536 : Int)))) (some (Fin.ret (AV.bool true), St.mk [] []))
            (branch (AV.bool (byOk [] && true))
              (branch (AV.bool (decide ((1 : Int) ≤ n) && decide (n ≤ (65536 : Int))))
                (branch (AV.bool (byOk [] && true))
                  (branch (AV.bool (decide ((1 : Int) ≤ n) && decide (n ≤ (65536 : Int))))
                    (loopRun (f8_l0.run F) [1, 5, 7, 9]
                      (Cont.block 0 (Cont.then (f8_r0.run F (f8.leaveK Fun.done)) (f8.leaveK Fun.done))) F
                      (Env.mk 65
                        [(1, AV.ns z 4 l), (5, AV.ptr 2 0),
                          (7, AV.ptr 4 0), (9, AV.int IntKind.i64 (0 : Int))])
                      (St.mk
                        [dk0 (Dk.new n.toNat (nR [])), dk1 (Dk.new n.toNat (nR [])), dk2 0 (Dk.new n.toNat (nR [])),
                          dk3 (Dk.new n.toNat (nR [])), rfA.ob 4 (Rf.new n.toNat (nR [])) 0,
                          rfA.ob 4 (Rf.new n.toNat (nR [])) 1,
                          rfA.ob 4 (Rf.new n.toNat (nR [])) 2,
                          rfA.ob 4 (Rf.new n.toNat (nR [])) 3]
                        []))
                    (some
                      (Fin.ret (AV.bool false),
                        St.mk
                          [dk0 (Dk.new n.toNat (nR [])), dk1 (Dk.new n.toNat (nR [])),
                            dk2 0 (Dk.new n.toNat (nR [])), dk3 (Dk.new n.toNat (nR []))]
                          [])))
                  none)
                (branch (AV.bool (byOk [] && true))
                  (branch (AV.bool (decide ((1 : Int) ≤ n) && decide (n ≤ (65536 : Int))))
                    (some
                      (Fin.ret (AV.bool false),
                        St.mk
                          [rfA.ob 0 (Rf.new n.toNat (nR [])) 0,
                            rfA.ob 0 (Rf.new n.toNat (nR [])) 1,
                            rfA.ob 0 (Rf.new n.toNat (nR [])) 2,
                            rfA.ob 0 (Rf.new n.toNat (nR [])) 3]
                          []))
                    (some (Fin.ret (AV.bool true), St.mk [] [])))
                  none))
              none))
          (branch (AV.bool (byOk [] && true))
            (branch (AV.bool (decide ((1 : Int) ≤ n) && decide (n ≤ (65536 : Int))))
              (branch (AV.bool (byOk [] && true))
                (branch (AV.bool (decide ((1 : Int) ≤ n) && decide (n ≤ (65536 : Int))))
                  (loopRun (f8_l0.run F) [1, 5, 7, 9]
                    (Cont.block 0 (Cont.then (f8_r0.run F (f8.leaveK Fun.done)) (f8.leaveK Fun.done))) F
                    (Env.mk 65
                      [(1, AV.ns z 4 l), (5, AV.ptr 2 0),
                        (7, AV.ptr 4 0), (9, AV.int IntKind.i64 (0 : Int))])
                    (St.mk
                      [dk0 (Dk.new n.toNat (nR [])), dk1 (Dk.new n.toNat (nR [])), dk2 0 (Dk.new n.toNat (nR [])),
                        dk3 (Dk.new n.toNat (nR [])), rfA.ob 4 (Rf.new n.toNat (nR [])) 0,
                        rfA.ob 4 (Rf.new n.toNat (nR [])) 1,
                        rfA.ob 4 (Rf.new n.toNat (nR [])) 2,
                        rfA.ob 4 (Rf.new n.toNat (nR [])) 3]
                      []))
                  (some
                    (Fin.ret (AV.bool false),
                      St.mk
                        [dk0 (Dk.new n.toNat (nR [])), dk1 (Dk.new n.toNat (nR [])), dk2 0 (Dk.new n.toNat (nR [])),
                          dk3 (Dk.new n.toNat (nR []))]
                        [])))
                none)
              (branch (AV.bool (byOk [] && true))
                (branch (AV.bool (decide ((1 : Int) ≤ n) && decide (n ≤ (65536 : Int))))
                  (some
                    (Fin.ret (AV.bool false),
                      St.mk
                        [rfA.ob 0 (Rf.new n.toNat (nR [])) 0,
                          rfA.ob 0 (Rf.new n.toNat (nR [])) 1,
                          rfA.ob 0 (Rf.new n.toNat (nR [])) 2,
                          rfA.ob 0 (Rf.new n.toNat (nR [])) 3]
                        []))
                  (some (Fin.ret (AV.bool true), St.mk [] [])))
                none))
            none)))
      none := by kernel_rfl

theorem calls_round (F m : Nat) (K : Cont) (z : Bool) (l : List (List AV)) (i : Int) (a b c d e f g h : Ob) :
    (loopRun (f8_l0.run F) [1, 5, 7, 9] K m.succ (Env.mk 65 [(1, .ns z 4 l), (5, .ptr 2 0), (7, .ptr 4 0), (9, .int .i64 i)]) ⟨[a, b, c, d, e, f, g, h], []⟩ : Ans) =
    branch (AV.bool (decide (i < (↑l.length : Int))))
      (branch (AV.bool (inR l i))
        (branch
          (AV.bool
            ((LD.agg [LT.int IntKind.i64, LT.int IntKind.i64, LT.int IntKind.i64, LT.ns 1]).is (V.rowAt l i)))
          (branch (AV.bool (hdI (V.rowAt l i) == (0 : Int)))
            (onSome (dkG 0 a b c d) none fun (o : Dk) =>
              onSome (rfA.G 4 [e, f, g, h]) none fun (o_1 : Rf) =>
                branch
                  (AV.bool (byOk (bR (o.rdB (hdI (V.rowAt l i).tail))) && byOk (bR (o_1.rdB (hdI (V.rowAt l i).tail)))))
                  (branch (AV.bool (nR (bR (o.rdB (hdI (V.rowAt l i).tail))) == nR (bR (o_1.rdB (hdI (V.rowAt l i).tail)))))
                    (branch (AV.bool !o.rdE (hdI (V.rowAt l i).tail) == o_1.rdE (hdI (V.rowAt l i).tail))
                      (K AX.ret (Env.mk 65 [(4, AV.bool false)]) (St.mk [a, b, c, d, e, f, g, h] []))
                      (loopRun (f8_l0.run F) [1, 5, 7, 9] K m
                        (Env.mk 65
                          [(1, AV.ns z 4 l), (5, AV.ptr 2 0),
                            (7, AV.ptr 4 0),
                            (9, AV.int IntKind.i64 (IntKind.i64.wrap (i + (1 : Int))))])
                        (St.mk [a, b, c, d, e, f, g, h] [])))
                    (K AX.ret (Env.mk 65 [(4, AV.bool false)]) (St.mk [a, b, c, d, e, f, g, h] [])))
                  none)
            (branch (AV.bool (hdI (V.rowAt l i) == (1 : Int)))
              (branch
                (AV.bool
                  (byOk (rwA (V.rowAt l i).tail.tail.tail) && apOk (rwA (V.rowAt l i).tail.tail.tail).length 1))
                (onSome (dkG 0 a b c d) none fun (o : Dk) =>
                  branch (AV.bool (byOk (rwA (V.rowAt l i).tail.tail.tail)))
                    (onSome (rfA.G 4 [e, f, g, h]) none fun (o_1 : Rf) =>
                      branch (AV.bool (true && decide (o_1.ws.length < 99999)))
                        (branch (AV.bool (byOk (rwA (V.rowAt l i).tail.tail.tail)))
                          (branch
                            (AV.bool
                              (o.wrE (hdI (V.rowAt l i).tail) (rwA (V.rowAt l i).tail.tail.tail).length ==
                                o_1.wrE (hdI (V.rowAt l i).tail) (rwA (V.rowAt l i).tail.tail.tail).length))
                            (branch
                              (AV.bool (byOk (rwA (V.rowAt l i).tail.tail.tail) && byOk (rwA (V.rowAt l i).tail.tail.tail)))
                              (branch
                                (AV.bool !nR (rwA (V.rowAt l i).tail.tail.tail) == nR (rwA (V.rowAt l i).tail.tail.tail))
                                (K AX.ret (Env.mk 65 [(4, AV.bool false)])
                                  (St.mk
                                    [dk0
                                        (o.wrX
                                          (hdI
                                            (List.drop 1
                                              (valLTs
                                                [LT.int IntKind.i64, LT.int IntKind.i64, LT.int IntKind.i64,
                                                  LT.ns 1]
                                                (V.rowAt l i))))
                                          (nR (rwA (V.rowAt l i).tail.tail.tail))),
                                      dk1
                                        (o.wrX
                                          (hdI
                                            (List.drop 1
                                              (valLTs
                                                [LT.int IntKind.i64, LT.int IntKind.i64, LT.int IntKind.i64,
                                                  LT.ns 1]
                                                (V.rowAt l i))))
                                          (nR (rwA (V.rowAt l i).tail.tail.tail))),
                                      dk2 0
                                        (o.wrX
                                          (hdI
                                            (List.drop 1
                                              (valLTs
                                                [LT.int IntKind.i64, LT.int IntKind.i64, LT.int IntKind.i64,
                                                  LT.ns 1]
                                                (V.rowAt l i))))
                                          (nR (rwA (V.rowAt l i).tail.tail.tail))),
                                      dk3
                                        (o.wrX
                                          (hdI
                                            (List.drop 1
                                              (valLTs
                                                [LT.int IntKind.i64, LT.int IntKind.i64, LT.int IntKind.i64,
                                                  LT.ns 1]
                                                (V.rowAt l i))))
                                          (nR (rwA (V.rowAt l i).tail.tail.tail))),
                                      rfA.ob 4
                                        (o_1.wrX
                                          (hdI
                                            (List.drop 1
                                              (valLTs
                                                [LT.int IntKind.i64, LT.int IntKind.i64, LT.int IntKind.i64,
                                                  LT.ns 1]
                                                (V.rowAt l i))))
                                          (nR (rwA (V.rowAt l i).tail.tail.tail)))
                                        0,
                                      rfA.ob 4
                                        (o_1.wrX
                                          (hdI
                                            (List.drop 1
                                              (valLTs
                                                [LT.int IntKind.i64, LT.int IntKind.i64, LT.int IntKind.i64,
                                                  LT.ns 1]
                                                (V.rowAt l i))))
                                          (nR (rwA (V.rowAt l i).tail.tail.tail)))
                                        1,
                                      rfA.ob 4
                                        (o_1.wrX
                                          (hdI
                                            (List.drop 1
                                              (valLTs
                                                [LT.int IntKind.i64, LT.int IntKind.i64, LT.int IntKind.i64,
                                                  LT.ns 1]
                                                (V.rowAt l i))))
                                          (nR (rwA (V.rowAt l i).tail.tail.tail)))
                                        2,
                                      rfA.ob 4
                                        (o_1.wrX
                                          (hdI
                                            (List.drop 1
                                              (valLTs
                                                [LT.int IntKind.i64, LT.int IntKind.i64, LT.int IntKind.i64,
                                                  LT.ns 1]
                                                (V.rowAt l i))))
                                          (nR (rwA (V.rowAt l i).tail.tail.tail)))
                                        3]
                                    []))
                                (loopRun (f8_l0.run F) [1, 5, 7, 9] K m
                                  (Env.mk 65
                                    [(1, AV.ns z 4 l), (5, AV.ptr 2 0),
                                      (7, AV.ptr 4 0),
                                      (9, AV.int IntKind.i64 (IntKind.i64.wrap (i + (1 : Int))))])
                                  (St.mk
                                    [dk0
                                        (o.wrX
                                          (hdI
                                            (List.drop 1
                                              (valLTs
                                                [LT.int IntKind.i64, LT.int IntKind.i64, LT.int IntKind.i64,
                                                  LT.ns 1]
                                                (V.rowAt l i))))
                                          (nR (rwA (V.rowAt l i).tail.tail.tail))),
                                      dk1
                                        (o.wrX
                                          (hdI
                                            (List.drop 1
                                              (valLTs
                                                [LT.int IntKind.i64, LT.int IntKind.i64, LT.int IntKind.i64,
                                                  LT.ns 1]
                                                (V.rowAt l i))))
                                          (nR (rwA (V.rowAt l i).tail.tail.tail))),
                                      dk2 0
                                        (o.wrX
                                          (hdI
                                            (List.drop 1
                                              (valLTs
                                                [LT.int IntKind.i64, LT.int IntKind.i64, LT.int IntKind.i64,
                                                  LT.ns 1]
                                                (V.rowAt l i))))
                                          (nR (rwA (V.rowAt l i).tail.tail.tail))),
                                      dk3
                                        (o.wrX
                                          (hdI
                                            (List.drop 1
                                              (valLTs
                                                [LT.int IntKind.i64, LT.int IntKind.i64, LT.int IntKind.i64,
                                                  LT.ns 1]
                                                (V.rowAt l i))))
                                          (nR (rwA (V.rowAt l i).tail.tail.tail))),
                                      rfA.ob 4
                                        (o_1.wrX
                                          (hdI
                                            (List.drop 1
                                              (valLTs
                                                [LT.int IntKind.i64, LT.int IntKind.i64, LT.int IntKind.i64,
                                                  LT.ns 1]
                                                (V.rowAt l i))))
                                          (nR (rwA (V.rowAt l i).tail.tail.tail)))
                                        0,
                                      rfA.ob 4
                                        (o_1.wrX
                                          (hdI
                                            (List.drop 1
                                              (valLTs
                                                [LT.int IntKind.i64, LT.int IntKind.i64, LT.int IntKind.i64,
                                                  LT.ns 1]
                                                (V.rowAt l i))))
                                          (nR (rwA (V.rowAt l i).tail.tail.tail)))
                                        1,
                                      rfA.ob 4
                                        (o_1.wrX
                                          (hdI
                                            (List.drop 1
                                              (valLTs
                                                [LT.int IntKind.i64, LT.int IntKind.i64, LT.int IntKind.i64,
                                                  LT.ns 1]
                                                (V.rowAt l i))))
                                          (nR (rwA (V.rowAt l i).tail.tail.tail)))
                                        2,
                                      rfA.ob 4
                                        (o_1.wrX
                                          (hdI
                                            (List.drop 1
                                              (valLTs
                                                [LT.int IntKind.i64, LT.int IntKind.i64, LT.int IntKind.i64,
                                                  LT.ns 1]
                                                (V.rowAt l i))))
                                          (nR (rwA (V.rowAt l i).tail.tail.tail)))
                                        3]
                                    [])))
                              none)
                            (K AX.ret (Env.mk 65 [(4, AV.bool false)])
                              (St.mk
                                [dk0
                                    (o.wrX
                                      (hdI
                                        (List.drop 1
                                          (valLTs
                                            [LT.int IntKind.i64, LT.int IntKind.i64, LT.int IntKind.i64, LT.ns 1]
                                            (V.rowAt l i))))
                                      (nR (rwA (V.rowAt l i).tail.tail.tail))),
                                  dk1
                                    (o.wrX
                                      (hdI
                                        (List.drop 1
                                          (valLTs
                                            [LT.int IntKind.i64, LT.int IntKind.i64, LT.int IntKind.i64, LT.ns 1]
                                            (V.rowAt l i))))
                                      (nR (rwA (V.rowAt l i).tail.tail.tail))),
                                  dk2 0
                                    (o.wrX
                                      (hdI
                                        (List.drop 1
                                          (valLTs
                                            [LT.int IntKind.i64, LT.int IntKind.i64, LT.int IntKind.i64, LT.ns 1]
                                            (V.rowAt l i))))
                                      (nR (rwA (V.rowAt l i).tail.tail.tail))),
                                  dk3
                                    (o.wrX
                                      (hdI
                                        (List.drop 1
                                          (valLTs
                                            [LT.int IntKind.i64, LT.int IntKind.i64, LT.int IntKind.i64, LT.ns 1]
                                            (V.rowAt l i))))
                                      (nR (rwA (V.rowAt l i).tail.tail.tail))),
                                  rfA.ob 4
                                    (o_1.wrX
                                      (hdI
                                        (List.drop 1
                                          (valLTs
                                            [LT.int IntKind.i64, LT.int IntKind.i64, LT.int IntKind.i64, LT.ns 1]
                                            (V.rowAt l i))))
                                      (nR (rwA (V.rowAt l i).tail.tail.tail)))
                                    0,
                                  rfA.ob 4
                                    (o_1.wrX
                                      (hdI
                                        (List.drop 1
                                          (valLTs
                                            [LT.int IntKind.i64, LT.int IntKind.i64, LT.int IntKind.i64, LT.ns 1]
                                            (V.rowAt l i))))
                                      (nR (rwA (V.rowAt l i).tail.tail.tail)))
                                    1,
                                  rfA.ob 4
                                    (o_1.wrX
                                      (hdI
                                        (List.drop 1
                                          (valLTs
                                            [LT.int IntKind.i64, LT.int IntKind.i64, LT.int IntKind.i64, LT.ns 1]
                                            (V.rowAt l i))))
                                      (nR (rwA (V.rowAt l i).tail.tail.tail)))
                                    2,
                                  rfA.ob 4
                                    (o_1.wrX
                                      (hdI
                                        (List.drop 1
                                          (valLTs
                                            [LT.int IntKind.i64, LT.int IntKind.i64, LT.int IntKind.i64, LT.ns 1]
                                            (V.rowAt l i))))
                                      (nR (rwA (V.rowAt l i).tail.tail.tail)))
                                    3]
                                [])))
                          none)
                        none)
                    none)
                none)
              (branch (AV.bool (hdI (V.rowAt l i) == (2 : Int)))
                (onSome (dkG 0 a b c d) none fun (o : Dk) =>
                  onSome (rfA.G 4 [e, f, g, h]) none fun (o_1 : Rf) =>
                    loopRun (f8_l0.run F) [1, 5, 7, 9] K m
                      (Env.mk 65
                        [(1, AV.ns z 4 l), (5, AV.ptr 2 0),
                          (7, AV.ptr 4 0),
                          (9, AV.int IntKind.i64 (IntKind.i64.wrap (i + (1 : Int))))])
                      (St.mk
                        [dk0 o.flush, dk1 o.flush, dk2 0 o.flush, dk3 o.flush, rfA.ob 4 o_1.flush 0,
                          rfA.ob 4 o_1.flush 1, rfA.ob 4 o_1.flush 2,
                          rfA.ob 4 o_1.flush 3]
                        []))
                (branch (AV.bool (hdI (V.rowAt l i) == (3 : Int)))
                  (onSome (dkG 0 a b c d) none fun (o : Dk) =>
                    onSome (rfA.G 4 [e, f, g, h]) none fun (o_1 : Rf) =>
                      loopRun (f8_l0.run F) [1, 5, 7, 9] K m
                        (Env.mk 65
                          [(1, AV.ns z 4 l), (5, AV.ptr 2 0),
                            (7, AV.ptr 4 0),
                            (9, AV.int IntKind.i64 (IntKind.i64.wrap (i + (1 : Int))))])
                        (St.mk
                          [dk0
                              (o.crash
                                (hdI
                                  (List.drop 1
                                    (valLTs [LT.int IntKind.i64, LT.int IntKind.i64, LT.int IntKind.i64, LT.ns 1]
                                      (V.rowAt l i))))
                                (hdI
                                  (List.drop 2
                                    (valLTs [LT.int IntKind.i64, LT.int IntKind.i64, LT.int IntKind.i64, LT.ns 1]
                                      (V.rowAt l i))))),
                            dk1
                              (o.crash
                                (hdI
                                  (List.drop 1
                                    (valLTs [LT.int IntKind.i64, LT.int IntKind.i64, LT.int IntKind.i64, LT.ns 1]
                                      (V.rowAt l i))))
                                (hdI
                                  (List.drop 2
                                    (valLTs [LT.int IntKind.i64, LT.int IntKind.i64, LT.int IntKind.i64, LT.ns 1]
                                      (V.rowAt l i))))),
                            dk2 0
                              (o.crash
                                (hdI
                                  (List.drop 1
                                    (valLTs [LT.int IntKind.i64, LT.int IntKind.i64, LT.int IntKind.i64, LT.ns 1]
                                      (V.rowAt l i))))
                                (hdI
                                  (List.drop 2
                                    (valLTs [LT.int IntKind.i64, LT.int IntKind.i64, LT.int IntKind.i64, LT.ns 1]
                                      (V.rowAt l i))))),
                            dk3
                              (o.crash
                                (hdI
                                  (List.drop 1
                                    (valLTs [LT.int IntKind.i64, LT.int IntKind.i64, LT.int IntKind.i64, LT.ns 1]
                                      (V.rowAt l i))))
                                (hdI
                                  (List.drop 2
                                    (valLTs [LT.int IntKind.i64, LT.int IntKind.i64, LT.int IntKind.i64, LT.ns 1]
                                      (V.rowAt l i))))),
                            rfA.ob 4
                              (o_1.crash
                                (hdI
                                  (List.drop 1
                                    (valLTs [LT.int IntKind.i64, LT.int IntKind.i64, LT.int IntKind.i64, LT.ns 1]
                                      (V.rowAt l i))))
                                (hdI
                                  (List.drop 2
                                    (valLTs [LT.int IntKind.i64, LT.int IntKind.i64, LT.int IntKind.i64, LT.ns 1]
                                      (V.rowAt l i)))))
                              0,
                            rfA.ob 4
                              (o_1.crash
                                (hdI
                                  (List.drop 1
                                    (valLTs [LT.int IntKind.i64, LT.int IntKind.i64, LT.int IntKind.i64, LT.ns 1]
                                      (V.rowAt l i))))
                                (hdI
                                  (List.drop 2
                                    (valLTs [LT.int IntKind.i64, LT.int IntKind.i64, LT.int IntKind.i64, LT.ns 1]
                                      (V.rowAt l i)))))
                              1,
                            rfA.ob 4
                              (o_1.crash
                                (hdI
                                  (List.drop 1
                                    (valLTs [LT.int IntKind.i64, LT.int IntKind.i64, LT.int IntKind.i64, LT.ns 1]
                                      (V.rowAt l i))))
                                (hdI
                                  (List.drop 2
                                    (valLTs [LT.int IntKind.i64, LT.int IntKind.i64, LT.int IntKind.i64, LT.ns 1]
                                      (V.rowAt l i)))))
                              2,
                            rfA.ob 4
                              (o_1.crash
                                (hdI
                                  (List.drop 1
                                    (valLTs [LT.int IntKind.i64, LT.int IntKind.i64, LT.int IntKind.i64, LT.ns 1]
                                      (V.rowAt l i))))
                                (hdI
                                  (List.drop 2
                                    (valLTs [LT.int IntKind.i64, LT.int IntKind.i64, LT.int IntKind.i64, LT.ns 1]
                                      (V.rowAt l i)))))
                              3]
                          []))
                  (loopRun (f8_l0.run F) [1, 5, 7, 9] K m
                    (Env.mk 65
                      [(1, AV.ns z 4 l), (5, AV.ptr 2 0),
                        (7, AV.ptr 4 0),
                        (9, AV.int IntKind.i64 (IntKind.i64.wrap (i + (1 : Int))))])
                    (St.mk [a, b, c, d, e, f, g, h] []))))))
          none)
        none)
      (K (AX.exit 0)
        (Env.mk 65 [(5, AV.ptr 2 0), (7, AV.ptr 4 0)])
        (St.mk [a, b, c, d, e, f, g, h] [])) := by kernel_rfl

theorem calls_out (F : Nat) (a b c d e f g h : Ob) :
    ((Cont.block 0 (Cont.then (f8_r0.run F (f8.leaveK Fun.done)) (f8.leaveK Fun.done))) (.exit 0) (Env.mk 65 [(5, .ptr 2 0), (7, .ptr 4 0)]) ⟨[a, b, c, d, e, f, g, h], []⟩ : Ans) =
    onSome (dkG 0 a b c d) none fun (o : Dk) =>
      onSome (rfA.G 4 [e, f, g, h]) none fun (o_1 : Rf) =>
        branch (AV.bool (cdec (Same o o_1) && true)) (some (Fin.ret (AV.bool true), St.mk [a, b, c, d, e, f, g, h] [])) none := by kernel_rfl

end Go.Proofs.Ytclghabbhpaafaa.V

/- Disk: DiskLoads, DiskCalls. -/
set_option linter.unusedVariables false
namespace Go.Proofs.Ytclghabbhpaafaa.V
open Go Go.V Go.RowKit

/-! ### Two disks are told the same things -/
theorem sec_part {l r : List Nat} {n a k : Nat} (hl : l.length = n * 64) (hr : r.length ≤ 64) (ha : a < n) : sec (putN l (a * 64) r) k = if a = k then putN (sec l k) 0 r else sec l k := by
  apply List.ext_getElem?
  intro i
  rw [sec_get, putN_get (by omega)]
  by_cases h : a = k
  · subst h
    have hs : (sec l a).length = 64 := by rw [sec, List.length_take, List.length_drop]; omega
    rw [if_pos rfl, putN_get (by omega), sec_get]
    by_cases hi : i < 64
    · rw [if_pos hi, if_pos hi, if_neg (by omega)]
      by_cases h1 : i < r.length
      · rw [if_pos (by omega), if_neg (by omega), if_pos (by omega)]; congr 1; omega
      · rw [if_neg (by omega), if_neg (by omega), if_neg (by omega)]
    · rw [if_neg hi, if_neg (by omega), if_neg (by omega), if_neg hi]
  · rw [if_neg h, sec_get]
    by_cases hi : i < 64
    · rw [if_pos hi, if_pos hi]
      by_cases h1 : k * 64 + i < a * 64
      · rw [if_pos h1]
      · rw [if_neg h1, if_neg (by omega)]
    · rw [if_neg hi, if_neg hi]
theorem cell_set {cs : List AV} {a k : Nat} {b : List Nat} (ha : a < cs.length) : cellB ((cs.set a (nsB b)).getD k .nilsl) = if a = k then b else cellB (cs.getD k .nilsl) := by
  rw [List.getD_eq_getElem?_getD, List.getD_eq_getElem?_getD, List.getElem?_set]
  by_cases h : a = k
  · rw [if_pos h, if_pos h, if_pos ha]; exact cellB_ns b
  · rw [if_neg h, if_neg h]
theorem same_app {n : Nat} : ∀ {ws : List (Nat × AV)} {l : List Nat} {cs : List AV}, l.length = n * 64 → cs.length = n → (∀ w ∈ ws, w.1 < n ∧ cellOk w.2) → (∀ k, k < n → sec l k = cellB (cs.getD k .nilsl)) → ∀ k, k < n → sec (appW l (ws.map fun w => (w.1, cellB w.2))) k = cellB ((setW cs ws).getD k .nilsl)
  | [], l, cs, _, _, _, h => h
  | w :: ws, l, cs, hl, hc, hw, h => by
    have h1 := hw w List.mem_cons_self
    have hb := h1.2.spec.2.2.1
    refine same_app (ws := ws) (l := putN l (w.1 * 64) (cellB w.2)) (cs := cs.set w.1 (nsB (cellB w.2))) (by rw [putN_length (by omega), hl]) (by rw [List.length_set, hc]) (fun x hx => hw x (List.mem_cons_of_mem _ hx)) fun k hk => ?_
    rw [sec_put hl hb h1.1, cell_set (by omega), h k hk]
theorem Same.settle {X : Dk} {Y : Rf} (h : Same X Y) (hX : X.Ok) (hY : Y.Ok) (keep torn : Nat) (ht : torn ≤ 64) : Same (X.settle keep torn) (Y.settle keep torn) := by
  have hn := h.n
  have ew : X.ws.take keep = (Y.ws.take keep).map fun w => (w.1, cellB w.2) := by rw [h.ws, Rf.wl, List.map_take]
  have eg : X.ws[keep]? = (Y.ws[keep]?).map fun w => (w.1, cellB w.2) := by rw [h.ws, Rf.wl, List.getElem?_map]
  obtain ⟨b1, b2⟩ := hY.take_ok keep
  have a1 := (appW_ok hX.len hX.byte (ws := X.ws.take keep) fun w hw => hX.ws w (List.mem_of_mem_take hw)).1
  have ha := same_app (n := X.n) (ws := Y.ws.take keep) (l := X.ls) (cs := Y.ls) hX.len hn.symm (fun w hw => by have := hY.ws w (List.mem_of_mem_take hw); rw [hn]; exact this) h.at_
  rw [← ew] at ha
  refine ⟨?_, fun k hk => ?_, rfl⟩
  · obtain ⟨c1, _⟩ := tornC_ok b1 b2 (w := Y.ws[keep]?) (fun x hx => hY.ws x (List.mem_of_getElem? hx)) torn
    exact hn.trans c1.symm
  · show sec (tornL (appW X.ls (X.ws.take keep)) X.ws[keep]? torn) k = cellB ((tornC (setW Y.ls (Y.ws.take keep)) Y.ws[keep]? torn).getD k .nilsl)
    rw [eg]
    cases e : Y.ws[keep]? with
    | none => exact ha k hk
    | some w =>
      have hw := hY.ws w (List.mem_of_getElem? e)
      have hb := hw.2.spec.2.2.1
      show sec (putN (appW X.ls (X.ws.take keep)) (w.1 * 64) ((cellB w.2).take torn)) k = cellB (((setW Y.ls (Y.ws.take keep)).set w.1 (nsB (putN (cellB ((setW Y.ls (Y.ws.take keep)).getD w.1 .nilsl)) 0 ((cellB w.2).take torn)))).getD k .nilsl)
      rw [sec_part a1 (by rw [List.length_take]; omega) (by rw [hn]; exact hw.1), cell_set (by rw [b1]; exact hw.1), ha k hk]
      by_cases hk2 : w.1 = k
      · rw [if_pos hk2, if_pos hk2, hk2]
      · rw [if_neg hk2, if_neg hk2]
theorem Same.crash {X : Dk} {Y : Rf} (h : Same X Y) (hX : X.Ok) (hY : Y.Ok) (k t : Int) : Same (X.crash k t) (Y.crash k t) := by
  have := (clip_ok t 64 (by omega)).2
  rw [Dk.crash, Rf.crash, h.len]
  exact h.settle hX hY _ _ (by omega)
theorem clip_self (n : Nat) : (clip (n : Int) n).toNat = n := by
  rw [clip_eq _ _ (by omega)]; split
  · omega
  · split <;> omega
theorem Same.flush {X : Dk} {Y : Rf} (h : Same X Y) (hX : X.Ok) (hY : Y.Ok) : Same X.flush Y.flush := by
  rw [Dk.flush, Rf.flush, Rf.crash, clip_self, show (clip 0 64).toNat = 0 by decide, h.len]
  exact h.settle hX hY _ _ (by omega)
theorem Same.wrX {X : Dk} {Y : Rf} (h : Same X Y) (k : Int) (b : List Nat) : Same (X.wrX k b) (Y.wrX k b) := by
  unfold Dk.wrX Rf.wrX
  rw [← h.n]
  split
  · refine ⟨h.n, h.at_, ?_⟩
    show X.ws ++ _ = (Y.ws ++ _).map _
    rw [h.ws, List.map_append]
    simp only [Rf.wl, List.map_cons, List.map_nil, cellB_sl]
  · exact h
theorem Same.wrE {X : Dk} {Y : Rf} (h : Same X Y) (k : Int) (len : Nat) : X.wrE k len = Y.wrE k len := by rw [Dk.wrE, Rf.wrE, h.n]
theorem same_new {n : Nat} {img : List Nat} : Same (Dk.new n img) (Rf.new n img) where
  n := (lC_length img n).symm
  at_ := fun k hk => by
    have hk : k < n := hk
    show sec (imgAt n img n) k = cellB ((lC img n).getD k .nilsl)
    rw [sec_img hk, List.getD_eq_getElem?_getD, lC, List.getElem?_map, List.getElem?_range hk]
    exact (cellB_ns _).symm
  ws := rfl
theorem gR {Y : Rf} (h : Y.Ok) (i : Nat) : rfA.G i [rfA.ob i Y 0, rfA.ob i Y 1, rfA.ob i Y 2, rfA.ob i Y 3] = some Y := rfA.G_obl h i

/-! ### DiskLoads -/
theorem loads_true (z : Bool) (l : List (List AV)) (n : Int) (hl : okR l = true) : ∃ F st, f5.run F [.ns z 1 l, .int .i64 n] ⟨[], []⟩ = some (.ret (.bool true), st) := by
  refine ⟨0, ?_⟩
  rw [loads_run]
  by_cases h1 : (l.length : Int) > 20000
  · rw [branch_of (by rw [decide_eq_true_eq]; exact h1)]; exact ⟨_, rfl⟩
  rw [branch_not (by rw [decide_eq_false_iff_not]; exact h1)]
  have hb : byOk l = true := byOk_iff.mpr ⟨hl, by omega⟩
  have h2 : (byOk l && apOk l.length 1) = true := by rw [hb, show apOk l.length 1 = true by rw [apOk_iff]; omega]; rfl
  have h3 : (byOk l && true) = true := by rw [hb]; rfl
  have h4 : (byOk l && byOk l) = true := by rw [hb]; rfl
  have h5 : (!nR l == nR l) = false := by simp
  have ok : ∀ {st : St}, (1 ≤ n ∧ n ≤ 65536) → (onSome (dkG 0 (dk0 (Dk.new n.toNat (nR l))) (dk1 (Dk.new n.toNat (nR l))) (dk2 (St.mk [] []).objs.length (Dk.new n.toNat (nR l))) (dk3 (Dk.new n.toNat (nR l)))) none fun (o : Dk) =>
      onSome (rfA.G 4 [rfA.ob 4 (Rf.new n.toNat (nR l)) 0, rfA.ob 4 (Rf.new n.toNat (nR l)) 1, rfA.ob 4 (Rf.new n.toNat (nR l)) 2, rfA.ob 4 (Rf.new n.toNat (nR l)) 3]) none fun (o_1 : Rf) =>
        branch (AV.bool (cdec (Same o o_1) && true)) (some (Fin.ret (AV.bool true), st)) none) = some (.ret (.bool true), st) := by
    intro st hn
    have kd : (Dk.new n.toNat (nR l)).Ok := new_ok (by omega) fun x hx => okR_lt hl hx
    have kr : (Rf.new n.toNat (nR l)).Ok := rnew_ok (by omega) (by omega) fun x hx => okR_lt hl hx
    rw [show dkG 0 (dk0 (Dk.new n.toNat (nR l))) (dk1 (Dk.new n.toNat (nR l))) (dk2 (St.mk [] []).objs.length (Dk.new n.toNat (nR l))) (dk3 (Dk.new n.toNat (nR l))) = some (Dk.new n.toNat (nR l)) from gD' kd (by show 0 < 999999; decide) 0, onSome_some, gR kr, onSome_some, branch_of (by rw [cdec_iff.mpr same_new]; rfl)]
  by_cases h6 : n > 100
  · rw [branch_of (by rw [decide_eq_true_eq]; exact h6)]
    by_cases h7 : n ≤ 65536
    · rw [branch_of (by rw [decide_eq_true_eq]; exact h7)]; exact ⟨_, rfl⟩
    · have hn : (decide (1 ≤ n) && decide (n ≤ 65536)) = false := by rw [decide_eq_false h7, Bool.and_false]
      rw [branch_not (by rw [decide_eq_false_iff_not]; exact h7), branch_of h2, branch_of h3, branch_not hn, branch_of h3, branch_not hn, branch_of h4, branch_not h5]
      exact ⟨_, rfl⟩
  · rw [branch_not (by rw [decide_eq_false_iff_not]; exact h6), branch_of h2, branch_of h3]
    by_cases h8 : 1 ≤ n
    · have hn : (decide (1 ≤ n) && decide (n ≤ 65536)) = true := by rw [decide_eq_true h8, decide_eq_true (by omega)]; rfl
      rw [branch_of hn, branch_of h3, branch_of hn, branch_of h4, branch_not h5, ok ⟨h8, by omega⟩]
      exact ⟨_, rfl⟩
    · have hn : (decide (1 ≤ n) && decide (n ≤ 65536)) = false := by rw [decide_eq_false h8]; rfl
      rw [branch_not hn, branch_of h3, branch_not hn, branch_of h4, branch_not h5]
      exact ⟨_, rfl⟩
theorem loads_law (as0 as1 : List AV) (s0 : Ty.Shape (.sl (.int .u8) 1) as0) (s1 : Ty.Shape (.int .i64) as1) : ∃ F st, f5.run F [(Ty.sl (.int .u8) 1).AV' as0, (Ty.int .i64).AV' as1] ⟨[], []⟩ = some (.ret (.bool true), st) := by
  obtain ⟨z, l, rfl, h1, h2, h3⟩ := bytes_shape s0
  obtain ⟨k, rfl, _⟩ := s1
  exact loads_true z l k h1

/-! ### DiskCalls -/
theorem big_small : ∀ {l : List (List AV)} {n : Nat}, bigSum l n = false → ∀ r ∈ l, dlen r ≤ 20000
  | [], n, _, r, hr => by cases hr
  | x :: l, n, h, r, hr => by
    rw [bigSum, Bool.or_eq_false_iff, decide_eq_false_iff_not] at h
    rcases List.mem_cons.mp hr with rfl | hr
    · have := h.1; omega
    · exact big_small h.2 r hr
noncomputable abbrev callsK (F : Nat) : Cont := Cont.block 0 (Cont.then (f8_r0.run F (f8.leaveK Fun.done)) (f8.leaveK Fun.done))
structure Pair (X : Dk) (Y : Rf) (i : Nat) : Prop where
  a : X.Ok
  b : Y.Ok
  s : Same X Y
  w : X.ws.length ≤ i
noncomputable def pairSt (X : Dk) (Y : Rf) : St := ⟨[dk0 X, dk1 X, dk2 0 X, dk3 X, rfA.ob 4 Y 0, rfA.ob 4 Y 1, rfA.ob 4 Y 2, rfA.ob 4 Y 3], []⟩
theorem calls_loop (F : Nat) (z : Bool) (l : List (List AV)) (hc : Calls' l) (h200 : l.length ≤ 200) (hsm : ∀ r ∈ l, dlen r ≤ 20000) : ∀ (k m i : Nat) (X : Dk) (Y : Rf), i + k = l.length → k < m → Pair X Y i → ∃ X' Y', Pair X' Y' 200 ∧
    loopRun (f8_l0.run F) [1, 5, 7, 9] (callsK F) m (Env.mk 65 [(1, .ns z 4 l), (5, .ptr 2 0), (7, .ptr 4 0), (9, .int .i64 (i : Int))]) (pairSt X Y) = callsK F (.exit 0) (Env.mk 65 [(5, .ptr 2 0), (7, .ptr 4 0)]) (pairSt X' Y')
  | k, 0, i, X, Y, hi, hm, hp => by omega
  | 0, m + 1, i, X, Y, hi, hm, hp => ⟨X, Y, ⟨hp.a, hp.b, hp.s, by have := hp.w; omega⟩, by rw [pairSt, show m + 1 = m.succ from rfl, calls_round, branch_not (by simp; omega)]⟩
  | k + 1, m + 1, i, X, Y, hi, hm, hp => by
    have h1 : i < l.length := by omega
    have ih := calls_loop F z l hc h200 hsm k m (i + 1)
    obtain ⟨w, s, t, y, d, hr, hd, hdl⟩ := hc l[i] (List.getElem_mem h1)
    have hby : byOk d = true := byOk_iff.mpr ⟨hd, hdl⟩
    have hw := hp.w
    have hl := hp.s.len
    have gx : dkG 0 (dk0 X) (dk1 X) (dk2 0 X) (dk3 X) = some X := gD' hp.a (by omega) 0
    have gy := gR hp.b 4
    rw [pairSt, show m + 1 = m.succ from rfl, calls_round, rowAt_nat h1, hr, branch_of (by simp; omega), branch_of (inR_nat h1), branch_of (by rfl), wrap_succ (by omega)]
    simp only [List.tail_cons, List.drop_succ_cons, List.drop_zero, valLTs, valLT, hdI, rwA, nilA]
    by_cases w0 : w = 0
    · subst w0
      obtain ⟨e1, e2⟩ := hp.s.rd s
      rw [branch_of (by rfl), gx, onSome_some, gy, onSome_some, ← e1, ← e2, branch_of (by rw [rd_byte hp.a]; rfl), branch_of (by simp), branch_not (by simp)]
      exact ih X Y (by omega) (by omega) ⟨hp.a, hp.b, hp.s, by omega⟩
    rw [branch_not (by simpa using w0)]
    by_cases w1 : w = 1
    · subst w1
      rw [branch_of (by rfl)]
      have hlen : (nR d).length = d.length := nR_length d
      have hap : (byOk d && apOk d.length 1) = true := by
        have hs := hsm l[i] (List.getElem_mem h1)
        rw [hr] at hs
        have hs : d.length ≤ 20000 := hs
        rw [hby, show apOk d.length 1 = true by rw [apOk_iff]; omega]; rfl
      have okx : (X.wrX s (nR d)).Ok := hp.a.wrX fun x hx => okR_lt hd hx
      have oky : (Y.wrX s (nR d)).Ok := hp.b.wrX (by omega) fun x hx => okR_lt hd hx
      have hwl := wr_len (X := X) (k := s) (b := nR d)
      rw [branch_of hap, gx, onSome_some, branch_of hby, gy, onSome_some, branch_of (show (true && decide (Y.ws.length < 99999)) = true by rw [decide_eq_true (by omega)]; rfl), branch_of hby, branch_of (by rw [hp.s.wrE]; simp), branch_of (by rw [hby]; rfl), branch_not (by simp)]
      exact ih _ _ (by omega) (by omega) ⟨okx, oky, hp.s.wrX _ _, by omega⟩
    rw [branch_not (by simpa using w1)]
    by_cases w2 : w = 2
    · subst w2
      rw [branch_of (by rfl), gx, onSome_some, gy, onSome_some]
      exact ih _ _ (by omega) (by omega) ⟨hp.a.settle _ _, hp.b.settle _ _, hp.s.flush hp.a hp.b, by show 0 ≤ _; omega⟩
    rw [branch_not (by simpa using w2)]
    by_cases w3 : w = 3
    · subst w3
      rw [branch_of (by rfl), gx, onSome_some, gy, onSome_some]
      exact ih _ _ (by omega) (by omega) ⟨hp.a.settle _ _, hp.b.settle _ _, hp.s.crash hp.a hp.b s t, by show 0 ≤ _; omega⟩
    rw [branch_not (by simpa using w3)]
    exact ih X Y (by omega) (by omega) ⟨hp.a, hp.b, hp.s, by omega⟩
theorem calls_true (z : Bool) (l : List (List AV)) (n : Int) (hc : Calls' l) (hl : l.length < 4611686018427387904) : ∃ F st, f8.run F [.int .i64 n, .ns z 4 l] ⟨[], []⟩ = some (.ret (.bool true), st) := by
  refine ⟨1000, ?_⟩
  rw [calls_run, branch_of (hc.ok hl)]
  cases hg : greatB l with
  | true => exact ⟨_, rfl⟩
  | false =>
    have h200 := great_len hg
    have hsm : ∀ r ∈ l, dlen r ≤ 20000 := by
      rw [greatB, opq_eq, Bool.or_eq_false_iff] at hg
      exact big_small hg.2
    have z0 : (byOk [] && true) = true := by rw [show byOk [] = true by rw [byOk_iff]; exact ⟨rfl, by decide⟩]; rfl
    have ok : (1 ≤ n ∧ n ≤ 65536) → ∃ st, loopRun (f8_l0.run 1000) [1, 5, 7, 9] (callsK 1000) 1000 (Env.mk 65 [(1, .ns z 4 l), (5, .ptr 2 0), (7, .ptr 4 0), (9, .int .i64 0)]) ⟨[dk0 (Dk.new n.toNat (nR [])), dk1 (Dk.new n.toNat (nR [])), dk2 0 (Dk.new n.toNat (nR [])), dk3 (Dk.new n.toNat (nR [])), rfA.ob 4 (Rf.new n.toNat (nR [])) 0, rfA.ob 4 (Rf.new n.toNat (nR [])) 1, rfA.ob 4 (Rf.new n.toNat (nR [])) 2, rfA.ob 4 (Rf.new n.toNat (nR [])) 3], []⟩ = some (.ret (.bool true), st) := by
      intro hn
      have kd : (Dk.new n.toNat (nR [])).Ok := new_ok (by omega) (by simp [nR])
      have kr : (Rf.new n.toNat (nR [])).Ok := rnew_ok (by omega) (by omega) (by simp [nR])
      obtain ⟨X, Y, hp, e⟩ := calls_loop 1000 z l hc h200 hsm l.length 1000 0 _ _ (by omega) (by omega) ⟨kd, kr, same_new, by show 0 ≤ 0; omega⟩
      have := hp.w
      refine ⟨pairSt X Y, Eq.trans e ?_⟩
      rw [callsK, pairSt, calls_out, gD' hp.a (by omega), onSome_some, gR hp.b, onSome_some, branch_of (by rw [cdec_iff.mpr hp.s]; rfl)]
    rw [branch_false]
    by_cases h6 : n > 100
    · rw [branch_of (by rw [decide_eq_true_eq]; exact h6)]
      by_cases h7 : n ≤ 65536
      · rw [branch_of (by rw [decide_eq_true_eq]; exact h7)]; exact ⟨_, rfl⟩
      · have hn : (decide (1 ≤ n) && decide (n ≤ 65536)) = false := by rw [decide_eq_false h7, Bool.and_false]
        rw [branch_not (by rw [decide_eq_false_iff_not]; exact h7), branch_of z0, branch_not hn, branch_of z0, branch_not hn]
        exact ⟨_, rfl⟩
    · rw [branch_not (by rw [decide_eq_false_iff_not]; exact h6), branch_of z0]
      by_cases h8 : 1 ≤ n
      · have hn : (decide (1 ≤ n) && decide (n ≤ 65536)) = true := by rw [decide_eq_true h8, decide_eq_true (by omega)]; rfl
        rw [branch_of hn, branch_of z0, branch_of hn]
        exact ok ⟨h8, by omega⟩
      · have hn : (decide (1 ≤ n) && decide (n ≤ 65536)) = false := by rw [decide_eq_false h8]; rfl
        rw [branch_not hn, branch_of z0, branch_not hn]
        exact ⟨_, rfl⟩
theorem calls_law (as0 as1 : List AV) (s0 : Ty.Shape (.int .i64) as0) (s1 : Ty.Shape tyCalls as1) : ∃ F st, f8.run F [(Ty.int .i64).AV' as0, tyCalls.AV' as1] ⟨[], []⟩ = some (.ret (.bool true), st) := by
  obtain ⟨k, rfl, _⟩ := s0
  obtain ⟨z, l, rfl, h1, h2⟩ := calls_shape s1
  exact calls_true z l k h1 h2
end Go.Proofs.Ytclghabbhpaafaa.V
