/- Merged out of 1 texts: what the claim's code comes to, and why. -/
import Derived.Test.YtnmglmkkeghnaaaX3
/- What the functions' runs come to; the right sides were printed by a tool, Lean checks them. -/
set_option linter.unusedVariables false
set_option maxRecDepth 100000
namespace Go.Proofs.Ytnmglmkkeghnaaa.V
open Go Go.V Go.RowKit

theorem sides_run (c s : ByteArray) (o k n : Int) (x y : AV) :
    (f3.run 20 [.agg [.str c, .int .i64 o, .int .i64 k, .int .i64 n, .str s], x, y] ⟨[], []⟩ : Ans) =
    onSome
      (dTri
        [AV.sl 5 true [[AV.str c, AV.int IntKind.i64 o, AV.int IntKind.i64 k, AV.int IntKind.i64 n, AV.str s]], frz x,
          frz y])
      none fun (o_1 : Tri) =>
      branch (AV.bool (triRows o_1))
        (branch (AV.bool (greatF o_1)) (some (Fin.ret (AV.bool true), St.mk [] []))
          (branch (AV.bool (o == 1))
            (onSome
              (dTr [AV.agg [AV.str c, AV.int IntKind.i64 o, AV.int IntKind.i64 k, AV.int IntKind.i64 n, AV.str s], x, y])
              none fun (o_2 : Cd × Br × Br) =>
              branch (AV.bool (okC o_2.snd.fst && okV o_2.snd.snd))
                (onSome
                  (dTr
                    [AV.agg [AV.str c, AV.int IntKind.i64 2, AV.int IntKind.i64 k, AV.int IntKind.i64 n, AV.str s], x, y])
                  none fun (o_3 : Cd × Br × Br) =>
                  branch (AV.bool (okC o_3.snd.fst && okV o_3.snd.snd))
                    (branch (AV.bool (2 != o))
                      (branch
                        (AV.bool
                          !decide (truF o_2.fst o_2.snd.fst.list o_2.snd.snd.list < 0) ==
                              decide (truF o_3.fst o_3.snd.fst.list o_3.snd.snd.list < 0))
                        (some
                          (Fin.ret (AV.bool false),
                            St.mk
                              [Ob.cells
                                  [AV.str c, AV.int IntKind.i64 2, AV.int IntKind.i64 k, AV.int IntKind.i64 n, AV.str s]]
                              []))
                        (branch (AV.bool (2 != o))
                          (branch (AV.bool (decide (truF o_2.fst o_2.snd.fst.list o_2.snd.snd.list ≥ 0)))
                            (branch
                              (AV.bool
                                (truF o_2.fst o_2.snd.fst.list o_2.snd.snd.list ==
                                  truF o_3.fst o_3.snd.fst.list o_3.snd.snd.list))
                              (some
                                (Fin.ret (AV.bool false),
                                  St.mk
                                    [Ob.cells
                                        [AV.str c, AV.int IntKind.i64 2, AV.int IntKind.i64 k, AV.int IntKind.i64 n,
                                          AV.str s]]
                                    []))
                              (onSome
                                (dTri
                                  [AV.sl 5 true
                                      [[AV.str c, AV.int IntKind.i64 o, AV.int IntKind.i64 k, AV.int IntKind.i64 n,
                                          AV.str s]],
                                    frz x, frz y])
                                none fun (o_4 : Tri) =>
                                branch (AV.bool (triOk o_4))
                                  (branch (AV.bool (holdsF o_4.fst.list o_4.snd.fst.list o_4.snd.snd.list))
                                    (onSome
                                      (dTri
                                        [AV.sl 5 true
                                            [[AV.str c, AV.int IntKind.i64 o, AV.int IntKind.i64 k, AV.int IntKind.i64 n,
                                                AV.str s]],
                                          frz x, frz y])
                                      none fun (o_5 : Tri) =>
                                      branch (AV.bool (triOk o_5))
                                        (branch (AV.bool !refusesF o_5.fst.list o_5.snd.fst.list o_5.snd.snd.list)
                                          (onSome
                                            (dTri
                                              [AV.sl 5 true
                                                  [[AV.str c, AV.int IntKind.i64 o, AV.int IntKind.i64 k,
                                                      AV.int IntKind.i64 n, AV.str s]],
                                                frz x, frz y])
                                            none fun (o_6 : Tri) =>
                                            branch (AV.bool (triOk o_6))
                                              (branch
                                                (AV.bool
                                                  (holdsF o_6.fst.list o_6.snd.fst.list o_6.snd.snd.list ==
                                                    (truF o_2.fst o_2.snd.fst.list o_2.snd.snd.list == 1)))
                                                (onSome
                                                  (dTri
                                                    [AV.sl 5 true
                                                        [[AV.str c, AV.int IntKind.i64 o, AV.int IntKind.i64 k,
                                                            AV.int IntKind.i64 n, AV.str s]],
                                                      frz x, frz y])
                                                  none fun (o : Tri) =>
                                                  branch (AV.bool (triOk o))
                                                    (some
                                                      (Fin.ret
                                                          (AV.bool
                                                            (refusesF o.fst.list o.snd.fst.list o.snd.snd.list ==
                                                              (truF o_2.fst o_2.snd.fst.list o_2.snd.snd.list == 0))),
                                                        St.mk
                                                          [Ob.cells
                                                              [AV.str c, AV.int IntKind.i64 2, AV.int IntKind.i64 k,
                                                                AV.int IntKind.i64 n, AV.str s]]
                                                          []))
                                                    none)
                                                (some
                                                  (Fin.ret (AV.bool false),
                                                    St.mk
                                                      [Ob.cells
                                                          [AV.str c, AV.int IntKind.i64 2, AV.int IntKind.i64 k,
                                                            AV.int IntKind.i64 n, AV.str s]]
                                                      [])))
                                              none)
                                          (some
                                            (Fin.ret (AV.bool false),
                                              St.mk
                                                [Ob.cells
                                                    [AV.str c, AV.int IntKind.i64 2, AV.int IntKind.i64 k,
                                                      AV.int IntKind.i64 n, AV.str s]]
                                                [])))
                                        none)
                                    (onSome
                                      (dTri
                                        [AV.sl 5 true
                                            [[AV.str c, AV.int IntKind.i64 o, AV.int IntKind.i64 k, AV.int IntKind.i64 n,
                                                AV.str s]],
                                          frz x, frz y])
                                      none fun (o_5 : Tri) =>
                                      branch (AV.bool (triOk o_5))
                                        (branch
                                          (AV.bool
                                            (holdsF o_5.fst.list o_5.snd.fst.list o_5.snd.snd.list ==
                                              (truF o_2.fst o_2.snd.fst.list o_2.snd.snd.list == 1)))
                                          (onSome
                                            (dTri
                                              [AV.sl 5 true
                                                  [[AV.str c, AV.int IntKind.i64 o, AV.int IntKind.i64 k,
                                                      AV.int IntKind.i64 n, AV.str s]],
                                                frz x, frz y])
                                            none fun (o : Tri) =>
                                            branch (AV.bool (triOk o))
                                              (some
                                                (Fin.ret
                                                    (AV.bool
                                                      (refusesF o.fst.list o.snd.fst.list o.snd.snd.list ==
                                                        (truF o_2.fst o_2.snd.fst.list o_2.snd.snd.list == 0))),
                                                  St.mk
                                                    [Ob.cells
                                                        [AV.str c, AV.int IntKind.i64 2, AV.int IntKind.i64 k,
                                                          AV.int IntKind.i64 n, AV.str s]]
                                                    []))
                                              none)
                                          (some
                                            (Fin.ret (AV.bool false),
                                              St.mk
                                                [Ob.cells
                                                    [AV.str c, AV.int IntKind.i64 2, AV.int IntKind.i64 k,
                                                      AV.int IntKind.i64 n, AV.str s]]
                                                [])))
                                        none))
                                  none))
                            (onSome
                              (dTri
                                [AV.sl 5 true
                                    [[AV.str c, AV.int IntKind.i64 o, AV.int IntKind.i64 k, AV.int IntKind.i64 n,
                                        AV.str s]],
                                  frz x, frz y])
                              none fun (o_4 : Tri) =>
                              branch (AV.bool (triOk o_4))
                                (branch (AV.bool (holdsF o_4.fst.list o_4.snd.fst.list o_4.snd.snd.list))
                                  (onSome
                                    (dTri
                                      [AV.sl 5 true
                                          [[AV.str c, AV.int IntKind.i64 o, AV.int IntKind.i64 k, AV.int IntKind.i64 n,
                                              AV.str s]],
                                        frz x, frz y])
                                    none fun (o_5 : Tri) =>
                                    branch (AV.bool (triOk o_5))
                                      (branch (AV.bool !refusesF o_5.fst.list o_5.snd.fst.list o_5.snd.snd.list)
                                        (onSome
                                          (dTri
                                            [AV.sl 5 true
                                                [[AV.str c, AV.int IntKind.i64 o, AV.int IntKind.i64 k,
                                                    AV.int IntKind.i64 n, AV.str s]],
                                              frz x, frz y])
                                          none fun (o_6 : Tri) =>
                                          branch (AV.bool (triOk o_6))
                                            (branch
                                              (AV.bool
                                                (holdsF o_6.fst.list o_6.snd.fst.list o_6.snd.snd.list ==
                                                  (truF o_2.fst o_2.snd.fst.list o_2.snd.snd.list == 1)))
                                              (onSome
                                                (dTri
                                                  [AV.sl 5 true
                                                      [[AV.str c, AV.int IntKind.i64 o, AV.int IntKind.i64 k,
                                                          AV.int IntKind.i64 n, AV.str s]],
                                                    frz x, frz y])
                                                none fun (o : Tri) =>
                                                branch (AV.bool (triOk o))
                                                  (some
                                                    (Fin.ret
                                                        (AV.bool
                                                          (refusesF o.fst.list o.snd.fst.list o.snd.snd.list ==
                                                            (truF o_2.fst o_2.snd.fst.list o_2.snd.snd.list == 0))),
                                                      St.mk
                                                        [Ob.cells
                                                            [AV.str c, AV.int IntKind.i64 2, AV.int IntKind.i64 k,
                                                              AV.int IntKind.i64 n, AV.str s]]
                                                        []))
                                                  none)
                                              (some
                                                (Fin.ret (AV.bool false),
                                                  St.mk
                                                    [Ob.cells
                                                        [AV.str c, AV.int IntKind.i64 2, AV.int IntKind.i64 k,
                                                          AV.int IntKind.i64 n, AV.str s]]
                                                    [])))
                                            none)
                                        (some
                                          (Fin.ret (AV.bool false),
                                            St.mk
                                              [Ob.cells
                                                  [AV.str c, AV.int IntKind.i64 2, AV.int IntKind.i64 k,
                                                    AV.int IntKind.i64 n, AV.str s]]
                                              [])))
                                      none)
                                  (onSome
                                    (dTri
                                      [AV.sl 5 true
                                          [[AV.str c, AV.int IntKind.i64 o, AV.int IntKind.i64 k, AV.int IntKind.i64 n,
                                              AV.str s]],
                                        frz x, frz y])
                                    none fun (o_5 : Tri) =>
                                    branch (AV.bool (triOk o_5))
                                      (branch
                                        (AV.bool
                                          (holdsF o_5.fst.list o_5.snd.fst.list o_5.snd.snd.list ==
                                            (truF o_2.fst o_2.snd.fst.list o_2.snd.snd.list == 1)))
                                        (onSome
                                          (dTri
                                            [AV.sl 5 true
                                                [[AV.str c, AV.int IntKind.i64 o, AV.int IntKind.i64 k,
                                                    AV.int IntKind.i64 n, AV.str s]],
                                              frz x, frz y])
                                          none fun (o : Tri) =>
                                          branch (AV.bool (triOk o))
                                            (some
                                              (Fin.ret
                                                  (AV.bool
                                                    (refusesF o.fst.list o.snd.fst.list o.snd.snd.list ==
                                                      (truF o_2.fst o_2.snd.fst.list o_2.snd.snd.list == 0))),
                                                St.mk
                                                  [Ob.cells
                                                      [AV.str c, AV.int IntKind.i64 2, AV.int IntKind.i64 k,
                                                        AV.int IntKind.i64 n, AV.str s]]
                                                  []))
                                            none)
                                        (some
                                          (Fin.ret (AV.bool false),
                                            St.mk
                                              [Ob.cells
                                                  [AV.str c, AV.int IntKind.i64 2, AV.int IntKind.i64 k,
                                                    AV.int IntKind.i64 n, AV.str s]]
                                              [])))
                                      none))
                                none))
                          (onSome
                            (dTri
                              [AV.sl 5 true
                                  [[AV.str c, AV.int IntKind.i64 o, AV.int IntKind.i64 k, AV.int IntKind.i64 n, AV.str s]],
                                frz x, frz y])
                            none fun (o_4 : Tri) =>
                            branch (AV.bool (triOk o_4))
                              (branch (AV.bool (holdsF o_4.fst.list o_4.snd.fst.list o_4.snd.snd.list))
                                (onSome
                                  (dTri
                                    [AV.sl 5 true
                                        [[AV.str c, AV.int IntKind.i64 o, AV.int IntKind.i64 k, AV.int IntKind.i64 n,
                                            AV.str s]],
                                      frz x, frz y])
                                  none fun (o_5 : Tri) =>
                                  branch (AV.bool (triOk o_5))
                                    (branch (AV.bool !refusesF o_5.fst.list o_5.snd.fst.list o_5.snd.snd.list)
                                      (onSome
                                        (dTri
                                          [AV.sl 5 true
                                              [[AV.str c, AV.int IntKind.i64 o, AV.int IntKind.i64 k, AV.int IntKind.i64 n,
                                                  AV.str s]],
                                            frz x, frz y])
                                        none fun (o_6 : Tri) =>
                                        branch (AV.bool (triOk o_6))
                                          (branch
                                            (AV.bool
                                              (holdsF o_6.fst.list o_6.snd.fst.list o_6.snd.snd.list ==
                                                (truF o_2.fst o_2.snd.fst.list o_2.snd.snd.list == 1)))
                                            (onSome
                                              (dTri
                                                [AV.sl 5 true
                                                    [[AV.str c, AV.int IntKind.i64 o, AV.int IntKind.i64 k,
                                                        AV.int IntKind.i64 n, AV.str s]],
                                                  frz x, frz y])
                                              none fun (o : Tri) =>
                                              branch (AV.bool (triOk o))
                                                (some
                                                  (Fin.ret
                                                      (AV.bool
                                                        (refusesF o.fst.list o.snd.fst.list o.snd.snd.list ==
                                                          (truF o_2.fst o_2.snd.fst.list o_2.snd.snd.list == 0))),
                                                    St.mk
                                                      [Ob.cells
                                                          [AV.str c, AV.int IntKind.i64 2, AV.int IntKind.i64 k,
                                                            AV.int IntKind.i64 n, AV.str s]]
                                                      []))
                                                none)
                                            (some
                                              (Fin.ret (AV.bool false),
                                                St.mk
                                                  [Ob.cells
                                                      [AV.str c, AV.int IntKind.i64 2, AV.int IntKind.i64 k,
                                                        AV.int IntKind.i64 n, AV.str s]]
                                                  [])))
                                          none)
                                      (some
                                        (Fin.ret (AV.bool false),
                                          St.mk
                                            [Ob.cells
                                                [AV.str c, AV.int IntKind.i64 2, AV.int IntKind.i64 k, AV.int IntKind.i64 n,
                                                  AV.str s]]
                                            [])))
                                    none)
                                (onSome
                                  (dTri
                                    [AV.sl 5 true
                                        [[AV.str c, AV.int IntKind.i64 o, AV.int IntKind.i64 k, AV.int IntKind.i64 n,
                                            AV.str s]],
                                      frz x, frz y])
                                  none fun (o_5 : Tri) =>
                                  branch (AV.bool (triOk o_5))
                                    (branch
                                      (AV.bool
                                        (holdsF o_5.fst.list o_5.snd.fst.list o_5.snd.snd.list ==
                                          (truF o_2.fst o_2.snd.fst.list o_2.snd.snd.list == 1)))
                                      (onSome
                                        (dTri
                                          [AV.sl 5 true
                                              [[AV.str c, AV.int IntKind.i64 o, AV.int IntKind.i64 k, AV.int IntKind.i64 n,
                                                  AV.str s]],
                                            frz x, frz y])
                                        none fun (o : Tri) =>
                                        branch (AV.bool (triOk o))
                                          (some
                                            (Fin.ret
                                                (AV.bool
                                                  (refusesF o.fst.list o.snd.fst.list o.snd.snd.list ==
                                                    (truF o_2.fst o_2.snd.fst.list o_2.snd.snd.list == 0))),
                                              St.mk
                                                [Ob.cells
                                                    [AV.str c, AV.int IntKind.i64 2, AV.int IntKind.i64 k,
                                                      AV.int IntKind.i64 n, AV.str s]]
                                                []))
                                          none)
                                      (some
                                        (Fin.ret (AV.bool false),
                                          St.mk
                                            [Ob.cells
                                                [AV.str c, AV.int IntKind.i64 2, AV.int IntKind.i64 k, AV.int IntKind.i64 n,
                                                  AV.str s]]
                                            [])))
                                    none))
                              none)))
                      (branch (AV.bool (2 != o))
                        (branch (AV.bool (decide (truF o_2.fst o_2.snd.fst.list o_2.snd.snd.list ≥ 0)))
                          (branch
                            (AV.bool
                              (truF o_2.fst o_2.snd.fst.list o_2.snd.snd.list ==
                                truF o_3.fst o_3.snd.fst.list o_3.snd.snd.list))
                            (some
                              (Fin.ret (AV.bool false),
                                St.mk
                                  [Ob.cells
                                      [AV.str c, AV.int IntKind.i64 2, AV.int IntKind.i64 k, AV.int IntKind.i64 n,
                                        AV.str s]]
                                  []))
                            (onSome
                              (dTri
                                [AV.sl 5 true
                                    [[AV.str c, AV.int IntKind.i64 o, AV.int IntKind.i64 k, AV.int IntKind.i64 n,
                                        AV.str s]],
                                  frz x, frz y])
                              none fun (o_4 : Tri) =>
                              branch (AV.bool (triOk o_4))
                                (branch (AV.bool (holdsF o_4.fst.list o_4.snd.fst.list o_4.snd.snd.list))
                                  (onSome
                                    (dTri
                                      [AV.sl 5 true
                                          [[AV.str c, AV.int IntKind.i64 o, AV.int IntKind.i64 k, AV.int IntKind.i64 n,
                                              AV.str s]],
                                        frz x, frz y])
                                    none fun (o_5 : Tri) =>
                                    branch (AV.bool (triOk o_5))
                                      (branch (AV.bool !refusesF o_5.fst.list o_5.snd.fst.list o_5.snd.snd.list)
                                        (onSome
                                          (dTri
                                            [AV.sl 5 true
                                                [[AV.str c, AV.int IntKind.i64 o, AV.int IntKind.i64 k,
                                                    AV.int IntKind.i64 n, AV.str s]],
                                              frz x, frz y])
                                          none fun (o_6 : Tri) =>
                                          branch (AV.bool (triOk o_6))
                                            (branch
                                              (AV.bool
                                                (holdsF o_6.fst.list o_6.snd.fst.list o_6.snd.snd.list ==
                                                  (truF o_2.fst o_2.snd.fst.list o_2.snd.snd.list == 1)))
                                              (onSome
                                                (dTri
                                                  [AV.sl 5 true
                                                      [[AV.str c, AV.int IntKind.i64 o, AV.int IntKind.i64 k,
                                                          AV.int IntKind.i64 n, AV.str s]],
                                                    frz x, frz y])
                                                none fun (o : Tri) =>
                                                branch (AV.bool (triOk o))
                                                  (some
                                                    (Fin.ret
                                                        (AV.bool
                                                          (refusesF o.fst.list o.snd.fst.list o.snd.snd.list ==
                                                            (truF o_2.fst o_2.snd.fst.list o_2.snd.snd.list == 0))),
                                                      St.mk
                                                        [Ob.cells
                                                            [AV.str c, AV.int IntKind.i64 2, AV.int IntKind.i64 k,
                                                              AV.int IntKind.i64 n, AV.str s]]
                                                        []))
                                                  none)
                                              (some
                                                (Fin.ret (AV.bool false),
                                                  St.mk
                                                    [Ob.cells
                                                        [AV.str c, AV.int IntKind.i64 2, AV.int IntKind.i64 k,
                                                          AV.int IntKind.i64 n, AV.str s]]
                                                    [])))
                                            none)
                                        (some
                                          (Fin.ret (AV.bool false),
                                            St.mk
                                              [Ob.cells
                                                  [AV.str c, AV.int IntKind.i64 2, AV.int IntKind.i64 k,
                                                    AV.int IntKind.i64 n, AV.str s]]
                                              [])))
                                      none)
                                  (onSome
                                    (dTri
                                      [AV.sl 5 true
                                          [[AV.str c, AV.int IntKind.i64 o, AV.int IntKind.i64 k, AV.int IntKind.i64 n,
                                              AV.str s]],
                                        frz x, frz y])
                                    none fun (o_5 : Tri) =>
                                    branch (AV.bool (triOk o_5))
                                      (branch
                                        (AV.bool
                                          (holdsF o_5.fst.list o_5.snd.fst.list o_5.snd.snd.list ==
                                            (truF o_2.fst o_2.snd.fst.list o_2.snd.snd.list == 1)))
                                        (onSome
                                          (dTri
                                            [AV.sl 5 true
                                                [[AV.str c, AV.int IntKind.i64 o, AV.int IntKind.i64 k,
                                                    AV.int IntKind.i64 n, AV.str s]],
                                              frz x, frz y])
                                          none fun (o : Tri) =>
                                          branch (AV.bool (triOk o))
                                            (some
                                              (Fin.ret
                                                  (AV.bool
                                                    (refusesF o.fst.list o.snd.fst.list o.snd.snd.list ==
                                                      (truF o_2.fst o_2.snd.fst.list o_2.snd.snd.list == 0))),
                                                St.mk
                                                  [Ob.cells
                                                      [AV.str c, AV.int IntKind.i64 2, AV.int IntKind.i64 k,
                                                        AV.int IntKind.i64 n, AV.str s]]
                                                  []))
                                            none)
                                        (some
                                          (Fin.ret (AV.bool false),
                                            St.mk
                                              [Ob.cells
                                                  [AV.str c, AV.int IntKind.i64 2, AV.int IntKind.i64 k,
                                                    AV.int IntKind.i64 n, AV.str s]]
                                              [])))
                                      none))
                                none))
                          (onSome
                            (dTri
                              [AV.sl 5 true
                                  [[AV.str c, AV.int IntKind.i64 o, AV.int IntKind.i64 k, AV.int IntKind.i64 n, AV.str s]],
                                frz x, frz y])
                            none fun (o_4 : Tri) =>
                            branch (AV.bool (triOk o_4))
                              (branch (AV.bool (holdsF o_4.fst.list o_4.snd.fst.list o_4.snd.snd.list))
                                (onSome
                                  (dTri
                                    [AV.sl 5 true
                                        [[AV.str c, AV.int IntKind.i64 o, AV.int IntKind.i64 k, AV.int IntKind.i64 n,
                                            AV.str s]],
                                      frz x, frz y])
                                  none fun (o_5 : Tri) =>
                                  branch (AV.bool (triOk o_5))
                                    (branch (AV.bool !refusesF o_5.fst.list o_5.snd.fst.list o_5.snd.snd.list)
                                      (onSome
                                        (dTri
                                          [AV.sl 5 true
                                              [[AV.str c, AV.int IntKind.i64 o, AV.int IntKind.i64 k, AV.int IntKind.i64 n,
                                                  AV.str s]],
                                            frz x, frz y])
                                        none fun (o_6 : Tri) =>
                                        branch (AV.bool (triOk o_6))
                                          (branch
                                            (AV.bool
                                              (holdsF o_6.fst.list o_6.snd.fst.list o_6.snd.snd.list ==
                                                (truF o_2.fst o_2.snd.fst.list o_2.snd.snd.list == 1)))
                                            (onSome
                                              (dTri
                                                [AV.sl 5 true
                                                    [[AV.str c, AV.int IntKind.i64 o, AV.int IntKind.i64 k,
                                                        AV.int IntKind.i64 n, AV.str s]],
                                                  frz x, frz y])
                                              none fun (o : Tri) =>
                                              branch (AV.bool (triOk o))
                                                (some
                                                  (Fin.ret
                                                      (AV.bool
                                                        (refusesF o.fst.list o.snd.fst.list o.snd.snd.list ==
                                                          (truF o_2.fst o_2.snd.fst.list o_2.snd.snd.list == 0))),
                                                    St.mk
                                                      [Ob.cells
                                                          [AV.str c, AV.int IntKind.i64 2, AV.int IntKind.i64 k,
                                                            AV.int IntKind.i64 n, AV.str s]]
                                                      []))
                                                none)
                                            (some
                                              (Fin.ret (AV.bool false),
                                                St.mk
                                                  [Ob.cells
                                                      [AV.str c, AV.int IntKind.i64 2, AV.int IntKind.i64 k,
                                                        AV.int IntKind.i64 n, AV.str s]]
                                                  [])))
                                          none)
                                      (some
                                        (Fin.ret (AV.bool false),
                                          St.mk
                                            [Ob.cells
                                                [AV.str c, AV.int IntKind.i64 2, AV.int IntKind.i64 k, AV.int IntKind.i64 n,
                                                  AV.str s]]
                                            [])))
                                    none)
                                (onSome
                                  (dTri
                                    [AV.sl 5 true
                                        [[AV.str c, AV.int IntKind.i64 o, AV.int IntKind.i64 k, AV.int IntKind.i64 n,
                                            AV.str s]],
                                      frz x, frz y])
                                  none fun (o_5 : Tri) =>
                                  branch (AV.bool (triOk o_5))
                                    (branch
                                      (AV.bool
                                        (holdsF o_5.fst.list o_5.snd.fst.list o_5.snd.snd.list ==
                                          (truF o_2.fst o_2.snd.fst.list o_2.snd.snd.list == 1)))
                                      (onSome
                                        (dTri
                                          [AV.sl 5 true
                                              [[AV.str c, AV.int IntKind.i64 o, AV.int IntKind.i64 k, AV.int IntKind.i64 n,
                                                  AV.str s]],
                                            frz x, frz y])
                                        none fun (o : Tri) =>
                                        branch (AV.bool (triOk o))
                                          (some
                                            (Fin.ret
                                                (AV.bool
                                                  (refusesF o.fst.list o.snd.fst.list o.snd.snd.list ==
                                                    (truF o_2.fst o_2.snd.fst.list o_2.snd.snd.list == 0))),
                                              St.mk
                                                [Ob.cells
                                                    [AV.str c, AV.int IntKind.i64 2, AV.int IntKind.i64 k,
                                                      AV.int IntKind.i64 n, AV.str s]]
                                                []))
                                          none)
                                      (some
                                        (Fin.ret (AV.bool false),
                                          St.mk
                                            [Ob.cells
                                                [AV.str c, AV.int IntKind.i64 2, AV.int IntKind.i64 k, AV.int IntKind.i64 n,
                                                  AV.str s]]
                                            [])))
                                    none))
                              none))
                        (onSome
                          (dTri
                            [AV.sl 5 true
                                [[AV.str c, AV.int IntKind.i64 o, AV.int IntKind.i64 k, AV.int IntKind.i64 n, AV.str s]],
                              frz x, frz y])
                          none fun (o_4 : Tri) =>
                          branch (AV.bool (triOk o_4))
                            (branch (AV.bool (holdsF o_4.fst.list o_4.snd.fst.list o_4.snd.snd.list))
                              (onSome
                                (dTri
                                  [AV.sl 5 true
                                      [[AV.str c, AV.int IntKind.i64 o, AV.int IntKind.i64 k, AV.int IntKind.i64 n,
                                          AV.str s]],
                                    frz x, frz y])
                                none fun (o_5 : Tri) =>
                                branch (AV.bool (triOk o_5))
                                  (branch (AV.bool !refusesF o_5.fst.list o_5.snd.fst.list o_5.snd.snd.list)
                                    (onSome
                                      (dTri
                                        [AV.sl 5 true
                                            [[AV.str c, AV.int IntKind.i64 o, AV.int IntKind.i64 k, AV.int IntKind.i64 n,
                                                AV.str s]],
                                          frz x, frz y])
                                      none fun (o_6 : Tri) =>
                                      branch (AV.bool (triOk o_6))
                                        (branch
                                          (AV.bool
                                            (holdsF o_6.fst.list o_6.snd.fst.list o_6.snd.snd.list ==
                                              (truF o_2.fst o_2.snd.fst.list o_2.snd.snd.list == 1)))
                                          (onSome
                                            (dTri
                                              [AV.sl 5 true
                                                  [[AV.str c, AV.int IntKind.i64 o, AV.int IntKind.i64 k,
                                                      AV.int IntKind.i64 n, AV.str s]],
                                                frz x, frz y])
                                            none fun (o : Tri) =>
                                            branch (AV.bool (triOk o))
                                              (some
                                                (Fin.ret
                                                    (AV.bool
                                                      (refusesF o.fst.list o.snd.fst.list o.snd.snd.list ==
                                                        (truF o_2.fst o_2.snd.fst.list o_2.snd.snd.list == 0))),
                                                  St.mk
                                                    [Ob.cells
                                                        [AV.str c, AV.int IntKind.i64 2, AV.int IntKind.i64 k,
                                                          AV.int IntKind.i64 n, AV.str s]]
                                                    []))
                                              none)
                                          (some
                                            (Fin.ret (AV.bool false),
                                              St.mk
                                                [Ob.cells
                                                    [AV.str c, AV.int IntKind.i64 2, AV.int IntKind.i64 k,
                                                      AV.int IntKind.i64 n, AV.str s]]
                                                [])))
                                        none)
                                    (some
                                      (Fin.ret (AV.bool false),
                                        St.mk
                                          [Ob.cells
                                              [AV.str c, AV.int IntKind.i64 2, AV.int IntKind.i64 k, AV.int IntKind.i64 n,
                                                AV.str s]]
                                          [])))
                                  none)
                              (onSome
                                (dTri
                                  [AV.sl 5 true
                                      [[AV.str c, AV.int IntKind.i64 o, AV.int IntKind.i64 k, AV.int IntKind.i64 n,
                                          AV.str s]],
                                    frz x, frz y])
                                none fun (o_5 : Tri) =>
                                branch (AV.bool (triOk o_5))
                                  (branch
                                    (AV.bool
                                      (holdsF o_5.fst.list o_5.snd.fst.list o_5.snd.snd.list ==
                                        (truF o_2.fst o_2.snd.fst.list o_2.snd.snd.list == 1)))
                                    (onSome
                                      (dTri
                                        [AV.sl 5 true
                                            [[AV.str c, AV.int IntKind.i64 o, AV.int IntKind.i64 k, AV.int IntKind.i64 n,
                                                AV.str s]],
                                          frz x, frz y])
                                      none fun (o : Tri) =>
                                      branch (AV.bool (triOk o))
                                        (some
                                          (Fin.ret
                                              (AV.bool
                                                (refusesF o.fst.list o.snd.fst.list o.snd.snd.list ==
                                                  (truF o_2.fst o_2.snd.fst.list o_2.snd.snd.list == 0))),
                                            St.mk
                                              [Ob.cells
                                                  [AV.str c, AV.int IntKind.i64 2, AV.int IntKind.i64 k,
                                                    AV.int IntKind.i64 n, AV.str s]]
                                              []))
                                        none)
                                    (some
                                      (Fin.ret (AV.bool false),
                                        St.mk
                                          [Ob.cells
                                              [AV.str c, AV.int IntKind.i64 2, AV.int IntKind.i64 k, AV.int IntKind.i64 n,
                                                AV.str s]]
                                          [])))
                                  none))
                            none)))
                    none)
                none)
            (branch (AV.bool (o == 2))
              (onSome
                (dTr [AV.agg [AV.str c, AV.int IntKind.i64 o, AV.int IntKind.i64 k, AV.int IntKind.i64 n, AV.str s], x, y])
                none fun (o_2 : Cd × Br × Br) =>
                branch (AV.bool (okC o_2.snd.fst && okV o_2.snd.snd))
                  (onSome
                    (dTr
                      [AV.agg [AV.str c, AV.int IntKind.i64 1, AV.int IntKind.i64 k, AV.int IntKind.i64 n, AV.str s], x, y])
                    none fun (o_3 : Cd × Br × Br) =>
                    branch (AV.bool (okC o_3.snd.fst && okV o_3.snd.snd))
                      (branch (AV.bool (1 != o))
                        (branch
                          (AV.bool
                            !decide (truF o_2.fst o_2.snd.fst.list o_2.snd.snd.list < 0) ==
                                decide (truF o_3.fst o_3.snd.fst.list o_3.snd.snd.list < 0))
                          (some
                            (Fin.ret (AV.bool false),
                              St.mk
                                [Ob.cells
                                    [AV.str c, AV.int IntKind.i64 1, AV.int IntKind.i64 k, AV.int IntKind.i64 n, AV.str s]]
                                []))
                          (branch (AV.bool (1 != o))
                            (branch (AV.bool (decide (truF o_2.fst o_2.snd.fst.list o_2.snd.snd.list ≥ 0)))
                              (branch
                                (AV.bool
                                  (truF o_2.fst o_2.snd.fst.list o_2.snd.snd.list ==
                                    truF o_3.fst o_3.snd.fst.list o_3.snd.snd.list))
                                (some
                                  (Fin.ret (AV.bool false),
                                    St.mk
                                      [Ob.cells
                                          [AV.str c, AV.int IntKind.i64 1, AV.int IntKind.i64 k, AV.int IntKind.i64 n,
                                            AV.str s]]
                                      []))
                                (onSome
                                  (dTri
                                    [AV.sl 5 true
                                        [[AV.str c, AV.int IntKind.i64 o, AV.int IntKind.i64 k, AV.int IntKind.i64 n,
                                            AV.str s]],
                                      frz x, frz y])
                                  none fun (o_4 : Tri) =>
                                  branch (AV.bool (triOk o_4))
                                    (branch (AV.bool (holdsF o_4.fst.list o_4.snd.fst.list o_4.snd.snd.list))
                                      (onSome
                                        (dTri
                                          [AV.sl 5 true
                                              [[AV.str c, AV.int IntKind.i64 o, AV.int IntKind.i64 k, AV.int IntKind.i64 n,
                                                  AV.str s]],
                                            frz x, frz y])
                                        none fun (o_5 : Tri) =>
                                        branch (AV.bool (triOk o_5))
                                          (branch (AV.bool !refusesF o_5.fst.list o_5.snd.fst.list o_5.snd.snd.list)
                                            (onSome
                                              (dTri
                                                [AV.sl 5 true
                                                    [[AV.str c, AV.int IntKind.i64 o, AV.int IntKind.i64 k,
                                                        AV.int IntKind.i64 n, AV.str s]],
                                                  frz x, frz y])
                                              none fun (o_6 : Tri) =>
                                              branch (AV.bool (triOk o_6))
                                                (branch
                                                  (AV.bool
                                                    (holdsF o_6.fst.list o_6.snd.fst.list o_6.snd.snd.list ==
                                                      (truF o_2.fst o_2.snd.fst.list o_2.snd.snd.list == 1)))
                                                  (onSome
                                                    (dTri
                                                      [AV.sl 5 true
                                                          [[AV.str c, AV.int IntKind.i64 o, AV.int IntKind.i64 k,
                                                              AV.int IntKind.i64 n, AV.str s]],
                                                        frz x, frz y])
                                                    none fun (o : Tri) =>
                                                    branch (AV.bool (triOk o))
                                                      (some
                                                        (Fin.ret
                                                            (AV.bool
                                                              (refusesF o.fst.list o.snd.fst.list o.snd.snd.list ==
                                                                (truF o_2.fst o_2.snd.fst.list o_2.snd.snd.list == 0))),
                                                          St.mk
                                                            [Ob.cells
                                                                [AV.str c, AV.int IntKind.i64 1, AV.int IntKind.i64 k,
                                                                  AV.int IntKind.i64 n, AV.str s]]
                                                            []))
                                                      none)
                                                  (some
                                                    (Fin.ret (AV.bool false),
                                                      St.mk
                                                        [Ob.cells
                                                            [AV.str c, AV.int IntKind.i64 1, AV.int IntKind.i64 k,
                                                              AV.int IntKind.i64 n, AV.str s]]
                                                        [])))
                                                none)
                                            (some
                                              (Fin.ret (AV.bool false),
                                                St.mk
                                                  [Ob.cells
                                                      [AV.str c, AV.int IntKind.i64 1, AV.int IntKind.i64 k,
                                                        AV.int IntKind.i64 n, AV.str s]]
                                                  [])))
                                          none)
                                      (onSome
                                        (dTri
                                          [AV.sl 5 true
                                              [[AV.str c, AV.int IntKind.i64 o, AV.int IntKind.i64 k, AV.int IntKind.i64 n,
                                                  AV.str s]],
                                            frz x, frz y])
                                        none fun (o_5 : Tri) =>
                                        branch (AV.bool (triOk o_5))
                                          (branch
                                            (AV.bool
                                              (holdsF o_5.fst.list o_5.snd.fst.list o_5.snd.snd.list ==
                                                (truF o_2.fst o_2.snd.fst.list o_2.snd.snd.list == 1)))
                                            (onSome
                                              (dTri
                                                [AV.sl 5 true
                                                    [[AV.str c, AV.int IntKind.i64 o, AV.int IntKind.i64 k,
                                                        AV.int IntKind.i64 n, AV.str s]],
                                                  frz x, frz y])
                                              none fun (o : Tri) =>
                                              branch (AV.bool (triOk o))
                                                (some
                                                  (Fin.ret
                                                      (AV.bool
                                                        (refusesF o.fst.list o.snd.fst.list o.snd.snd.list ==
                                                          (truF o_2.fst o_2.snd.fst.list o_2.snd.snd.list == 0))),
                                                    St.mk
                                                      [Ob.cells
                                                          [AV.str c, AV.int IntKind.i64 1, AV.int IntKind.i64 k,
                                                            AV.int IntKind.i64 n, AV.str s]]
                                                      []))
                                                none)
                                            (some
                                              (Fin.ret (AV.bool false),
                                                St.mk
                                                  [Ob.cells
                                                      [AV.str c, AV.int IntKind.i64 1, AV.int IntKind.i64 k,
                                                        AV.int IntKind.i64 n, AV.str s]]
                                                  [])))
                                          none))
                                    none))
                              (onSome
                                (dTri
                                  [AV.sl 5 true
                                      [[AV.str c, AV.int IntKind.i64 o, AV.int IntKind.i64 k, AV.int IntKind.i64 n,
                                          AV.str s]],
                                    frz x, frz y])
                                none fun (o_4 : Tri) =>
                                branch (AV.bool (triOk o_4))
                                  (branch (AV.bool (holdsF o_4.fst.list o_4.snd.fst.list o_4.snd.snd.list))
                                    (onSome
                                      (dTri
                                        [AV.sl 5 true
                                            [[AV.str c, AV.int IntKind.i64 o, AV.int IntKind.i64 k, AV.int IntKind.i64 n,
                                                AV.str s]],
                                          frz x, frz y])
                                      none fun (o_5 : Tri) =>
                                      branch (AV.bool (triOk o_5))
                                        (branch (AV.bool !refusesF o_5.fst.list o_5.snd.fst.list o_5.snd.snd.list)
                                          (onSome
                                            (dTri
                                              [AV.sl 5 true
                                                  [[AV.str c, AV.int IntKind.i64 o, AV.int IntKind.i64 k,
                                                      AV.int IntKind.i64 n, AV.str s]],
                                                frz x, frz y])
                                            none fun (o_6 : Tri) =>
                                            branch (AV.bool (triOk o_6))
                                              (branch
                                                (AV.bool
                                                  (holdsF o_6.fst.list o_6.snd.fst.list o_6.snd.snd.list ==
                                                    (truF o_2.fst o_2.snd.fst.list o_2.snd.snd.list == 1)))
                                                (onSome
                                                  (dTri
                                                    [AV.sl 5 true
                                                        [[AV.str c, AV.int IntKind.i64 o, AV.int IntKind.i64 k,
                                                            AV.int IntKind.i64 n, AV.str s]],
                                                      frz x, frz y])
                                                  none fun (o : Tri) =>
                                                  branch (AV.bool (triOk o))
                                                    (some
                                                      (Fin.ret
                                                          (AV.bool
                                                            (refusesF o.fst.list o.snd.fst.list o.snd.snd.list ==
                                                              (truF o_2.fst o_2.snd.fst.list o_2.snd.snd.list == 0))),
                                                        St.mk
                                                          [Ob.cells
                                                              [AV.str c, AV.int IntKind.i64 1, AV.int IntKind.i64 k,
                                                                AV.int IntKind.i64 n, AV.str s]]
                                                          []))
                                                    none)
                                                (some
                                                  (Fin.ret (AV.bool false),
                                                    St.mk
                                                      [Ob.cells
                                                          [AV.str c, AV.int IntKind.i64 1, AV.int IntKind.i64 k,
                                                            AV.int IntKind.i64 n, AV.str s]]
                                                      [])))
                                              none)
                                          (some
                                            (Fin.ret (AV.bool false),
                                              St.mk
                                                [Ob.cells
                                                    [AV.str c, AV.int IntKind.i64 1, AV.int IntKind.i64 k,
                                                      AV.int IntKind.i64 n, AV.str s]]
                                                [])))
                                        none)
                                    (onSome
                                      (dTri
                                        [AV.sl 5 true
                                            [[AV.str c, AV.int IntKind.i64 o, AV.int IntKind.i64 k, AV.int IntKind.i64 n,
                                                AV.str s]],
                                          frz x, frz y])
                                      none fun (o_5 : Tri) =>
                                      branch (AV.bool (triOk o_5))
                                        (branch
                                          (AV.bool
                                            (holdsF o_5.fst.list o_5.snd.fst.list o_5.snd.snd.list ==
                                              (truF o_2.fst o_2.snd.fst.list o_2.snd.snd.list == 1)))
                                          (onSome
                                            (dTri
                                              [AV.sl 5 true
                                                  [[AV.str c, AV.int IntKind.i64 o, AV.int IntKind.i64 k,
                                                      AV.int IntKind.i64 n, AV.str s]],
                                                frz x, frz y])
                                            none fun (o : Tri) =>
                                            branch (AV.bool (triOk o))
                                              (some
                                                (Fin.ret
                                                    (AV.bool
                                                      (refusesF o.fst.list o.snd.fst.list o.snd.snd.list ==
                                                        (truF o_2.fst o_2.snd.fst.list o_2.snd.snd.list == 0))),
                                                  St.mk
                                                    [Ob.cells
                                                        [AV.str c, AV.int IntKind.i64 1, AV.int IntKind.i64 k,
                                                          AV.int IntKind.i64 n, AV.str s]]
                                                    []))
                                              none)
                                          (some
                                            (Fin.ret (AV.bool false),
                                              St.mk
                                                [Ob.cells
                                                    [AV.str c, AV.int IntKind.i64 1, AV.int IntKind.i64 k,
                                                      AV.int IntKind.i64 n, AV.str s]]
                                                [])))
                                        none))
                                  none))
                            (onSome
                              (dTri
                                [AV.sl 5 true
                                    [[AV.str c, AV.int IntKind.i64 o, AV.int IntKind.i64 k, AV.int IntKind.i64 n,
                                        AV.str s]],
                                  frz x, frz y])
                              none fun (o_4 : Tri) =>
                              branch (AV.bool (triOk o_4))
                                (branch (AV.bool (holdsF o_4.fst.list o_4.snd.fst.list o_4.snd.snd.list))
                                  (onSome
                                    (dTri
                                      [AV.sl 5 true
                                          [[AV.str c, AV.int IntKind.i64 o, AV.int IntKind.i64 k, AV.int IntKind.i64 n,
                                              AV.str s]],
                                        frz x, frz y])
                                    none fun (o_5 : Tri) =>
                                    branch (AV.bool (triOk o_5))
                                      (branch (AV.bool !refusesF o_5.fst.list o_5.snd.fst.list o_5.snd.snd.list)
                                        (onSome
                                          (dTri
                                            [AV.sl 5 true
                                                [[AV.str c, AV.int IntKind.i64 o, AV.int IntKind.i64 k,
                                                    AV.int IntKind.i64 n, AV.str s]],
                                              frz x, frz y])
                                          none fun (o_6 : Tri) =>
                                          branch (AV.bool (triOk o_6))
                                            (branch
                                              (AV.bool
                                                (holdsF o_6.fst.list o_6.snd.fst.list o_6.snd.snd.list ==
                                                  (truF o_2.fst o_2.snd.fst.list o_2.snd.snd.list == 1)))
                                              (onSome
                                                (dTri
                                                  [AV.sl 5 true
                                                      [[AV.str c, AV.int IntKind.i64 o, AV.int IntKind.i64 k,
                                                          AV.int IntKind.i64 n, AV.str s]],
                                                    frz x, frz y])
                                                none fun (o : Tri) =>
                                                branch (AV.bool (triOk o))
                                                  (some
                                                    (Fin.ret
                                                        (AV.bool
                                                          (refusesF o.fst.list o.snd.fst.list o.snd.snd.list ==
                                                            (truF o_2.fst o_2.snd.fst.list o_2.snd.snd.list == 0))),
                                                      St.mk
                                                        [Ob.cells
                                                            [AV.str c, AV.int IntKind.i64 1, AV.int IntKind.i64 k,
                                                              AV.int IntKind.i64 n, AV.str s]]
                                                        []))
                                                  none)
                                              (some
                                                (Fin.ret (AV.bool false),
                                                  St.mk
                                                    [Ob.cells
                                                        [AV.str c, AV.int IntKind.i64 1, AV.int IntKind.i64 k,
                                                          AV.int IntKind.i64 n, AV.str s]]
                                                    [])))
                                            none)
                                        (some
                                          (Fin.ret (AV.bool false),
                                            St.mk
                                              [Ob.cells
                                                  [AV.str c, AV.int IntKind.i64 1, AV.int IntKind.i64 k,
                                                    AV.int IntKind.i64 n, AV.str s]]
                                              [])))
                                      none)
                                  (onSome
                                    (dTri
                                      [AV.sl 5 true
                                          [[AV.str c, AV.int IntKind.i64 o, AV.int IntKind.i64 k, AV.int IntKind.i64 n,
                                              AV.str s]],
                                        frz x, frz y])
                                    none fun (o_5 : Tri) =>
                                    branch (AV.bool (triOk o_5))
                                      (branch
                                        (AV.bool
                                          (holdsF o_5.fst.list o_5.snd.fst.list o_5.snd.snd.list ==
                                            (truF o_2.fst o_2.snd.fst.list o_2.snd.snd.list == 1)))
                                        (onSome
                                          (dTri
                                            [AV.sl 5 true
                                                [[AV.str c, AV.int IntKind.i64 o, AV.int IntKind.i64 k,
                                                    AV.int IntKind.i64 n, AV.str s]],
                                              frz x, frz y])
                                          none fun (o : Tri) =>
                                          branch (AV.bool (triOk o))
                                            (some
                                              (Fin.ret
                                                  (AV.bool
                                                    (refusesF o.fst.list o.snd.fst.list o.snd.snd.list ==
                                                      (truF o_2.fst o_2.snd.fst.list o_2.snd.snd.list == 0))),
                                                St.mk
                                                  [Ob.cells
                                                      [AV.str c, AV.int IntKind.i64 1, AV.int IntKind.i64 k,
                                                        AV.int IntKind.i64 n, AV.str s]]
                                                  []))
                                            none)
                                        (some
                                          (Fin.ret (AV.bool false),
                                            St.mk
                                              [Ob.cells
                                                  [AV.str c, AV.int IntKind.i64 1, AV.int IntKind.i64 k,
                                                    AV.int IntKind.i64 n, AV.str s]]
                                              [])))
                                      none))
                                none)))
                        (branch (AV.bool (1 != o))
                          (branch (AV.bool (decide (truF o_2.fst o_2.snd.fst.list o_2.snd.snd.list ≥ 0)))
                            (branch
                              (AV.bool
                                (truF o_2.fst o_2.snd.fst.list o_2.snd.snd.list ==
                                  truF o_3.fst o_3.snd.fst.list o_3.snd.snd.list))
                              (some
                                (Fin.ret (AV.bool false),
                                  St.mk
                                    [Ob.cells
                                        [AV.str c, AV.int IntKind.i64 1, AV.int IntKind.i64 k, AV.int IntKind.i64 n,
                                          AV.str s]]
                                    []))
                              (onSome
                                (dTri
                                  [AV.sl 5 true
                                      [[AV.str c, AV.int IntKind.i64 o, AV.int IntKind.i64 k, AV.int IntKind.i64 n,
                                          AV.str s]],
                                    frz x, frz y])
                                none fun (o_4 : Tri) =>
                                branch (AV.bool (triOk o_4))
                                  (branch (AV.bool (holdsF o_4.fst.list o_4.snd.fst.list o_4.snd.snd.list))
                                    (onSome
                                      (dTri
                                        [AV.sl 5 true
                                            [[AV.str c, AV.int IntKind.i64 o, AV.int IntKind.i64 k, AV.int IntKind.i64 n,
                                                AV.str s]],
                                          frz x, frz y])
                                      none fun (o_5 : Tri) =>
                                      branch (AV.bool (triOk o_5))
                                        (branch (AV.bool !refusesF o_5.fst.list o_5.snd.fst.list o_5.snd.snd.list)
                                          (onSome
                                            (dTri
                                              [AV.sl 5 true
                                                  [[AV.str c, AV.int IntKind.i64 o, AV.int IntKind.i64 k,
                                                      AV.int IntKind.i64 n, AV.str s]],
                                                frz x, frz y])
                                            none fun (o_6 : Tri) =>
                                            branch (AV.bool (triOk o_6))
                                              (branch
                                                (AV.bool
                                                  (holdsF o_6.fst.list o_6.snd.fst.list o_6.snd.snd.list ==
                                                    (truF o_2.fst o_2.snd.fst.list o_2.snd.snd.list == 1)))
                                                (onSome
                                                  (dTri
                                                    [AV.sl 5 true
                                                        [[AV.str c, AV.int IntKind.i64 o, AV.int IntKind.i64 k,
                                                            AV.int IntKind.i64 n, AV.str s]],
                                                      frz x, frz y])
                                                  none fun (o : Tri) =>
                                                  branch (AV.bool (triOk o))
                                                    (some
                                                      (Fin.ret
                                                          (AV.bool
                                                            (refusesF o.fst.list o.snd.fst.list o.snd.snd.list ==
                                                              (truF o_2.fst o_2.snd.fst.list o_2.snd.snd.list == 0))),
                                                        St.mk
                                                          [Ob.cells
                                                              [AV.str c, AV.int IntKind.i64 1, AV.int IntKind.i64 k,
                                                                AV.int IntKind.i64 n, AV.str s]]
                                                          []))
                                                    none)
                                                (some
                                                  (Fin.ret (AV.bool false),
                                                    St.mk
                                                      [Ob.cells
                                                          [AV.str c, AV.int IntKind.i64 1, AV.int IntKind.i64 k,
                                                            AV.int IntKind.i64 n, AV.str s]]
                                                      [])))
                                              none)
                                          (some
                                            (Fin.ret (AV.bool false),
                                              St.mk
                                                [Ob.cells
                                                    [AV.str c, AV.int IntKind.i64 1, AV.int IntKind.i64 k,
                                                      AV.int IntKind.i64 n, AV.str s]]
                                                [])))
                                        none)
                                    (onSome
                                      (dTri
                                        [AV.sl 5 true
                                            [[AV.str c, AV.int IntKind.i64 o, AV.int IntKind.i64 k, AV.int IntKind.i64 n,
                                                AV.str s]],
                                          frz x, frz y])
                                      none fun (o_5 : Tri) =>
                                      branch (AV.bool (triOk o_5))
                                        (branch
                                          (AV.bool
                                            (holdsF o_5.fst.list o_5.snd.fst.list o_5.snd.snd.list ==
                                              (truF o_2.fst o_2.snd.fst.list o_2.snd.snd.list == 1)))
                                          (onSome
                                            (dTri
                                              [AV.sl 5 true
                                                  [[AV.str c, AV.int IntKind.i64 o, AV.int IntKind.i64 k,
                                                      AV.int IntKind.i64 n, AV.str s]],
                                                frz x, frz y])
                                            none fun (o : Tri) =>
                                            branch (AV.bool (triOk o))
                                              (some
                                                (Fin.ret
                                                    (AV.bool
                                                      (refusesF o.fst.list o.snd.fst.list o.snd.snd.list ==
                                                        (truF o_2.fst o_2.snd.fst.list o_2.snd.snd.list == 0))),
                                                  St.mk
                                                    [Ob.cells
                                                        [AV.str c, AV.int IntKind.i64 1, AV.int IntKind.i64 k,
                                                          AV.int IntKind.i64 n, AV.str s]]
                                                    []))
                                              none)
                                          (some
                                            (Fin.ret (AV.bool false),
                                              St.mk
                                                [Ob.cells
                                                    [AV.str c, AV.int IntKind.i64 1, AV.int IntKind.i64 k,
                                                      AV.int IntKind.i64 n, AV.str s]]
                                                [])))
                                        none))
                                  none))
                            (onSome
                              (dTri
                                [AV.sl 5 true
                                    [[AV.str c, AV.int IntKind.i64 o, AV.int IntKind.i64 k, AV.int IntKind.i64 n,
                                        AV.str s]],
                                  frz x, frz y])
                              none fun (o_4 : Tri) =>
                              branch (AV.bool (triOk o_4))
                                (branch (AV.bool (holdsF o_4.fst.list o_4.snd.fst.list o_4.snd.snd.list))
                                  (onSome
                                    (dTri
                                      [AV.sl 5 true
                                          [[AV.str c, AV.int IntKind.i64 o, AV.int IntKind.i64 k, AV.int IntKind.i64 n,
                                              AV.str s]],
                                        frz x, frz y])
                                    none fun (o_5 : Tri) =>
                                    branch (AV.bool (triOk o_5))
                                      (branch (AV.bool !refusesF o_5.fst.list o_5.snd.fst.list o_5.snd.snd.list)
                                        (onSome
                                          (dTri
                                            [AV.sl 5 true
                                                [[AV.str c, AV.int IntKind.i64 o, AV.int IntKind.i64 k,
                                                    AV.int IntKind.i64 n, AV.str s]],
                                              frz x, frz y])
                                          none fun (o_6 : Tri) =>
                                          branch (AV.bool (triOk o_6))
                                            (branch
                                              (AV.bool
                                                (holdsF o_6.fst.list o_6.snd.fst.list o_6.snd.snd.list ==
                                                  (truF o_2.fst o_2.snd.fst.list o_2.snd.snd.list == 1)))
                                              (onSome
                                                (dTri
                                                  [AV.sl 5 true
                                                      [[AV.str c, AV.int IntKind.i64 o, AV.int IntKind.i64 k,
                                                          AV.int IntKind.i64 n, AV.str s]],
                                                    frz x, frz y])
                                                none fun (o : Tri) =>
                                                branch (AV.bool (triOk o))
                                                  (some
                                                    (Fin.ret
                                                        (AV.bool
                                                          (refusesF o.fst.list o.snd.fst.list o.snd.snd.list ==
                                                            (truF o_2.fst o_2.snd.fst.list o_2.snd.snd.list == 0))),
                                                      St.mk
                                                        [Ob.cells
                                                            [AV.str c, AV.int IntKind.i64 1, AV.int IntKind.i64 k,
                                                              AV.int IntKind.i64 n, AV.str s]]
                                                        []))
                                                  none)
                                              (some
                                                (Fin.ret (AV.bool false),
                                                  St.mk
                                                    [Ob.cells
                                                        [AV.str c, AV.int IntKind.i64 1, AV.int IntKind.i64 k,
                                                          AV.int IntKind.i64 n, AV.str s]]
                                                    [])))
                                            none)
                                        (some
                                          (Fin.ret (AV.bool false),
                                            St.mk
                                              [Ob.cells
                                                  [AV.str c, AV.int IntKind.i64 1, AV.int IntKind.i64 k,
                                                    AV.int IntKind.i64 n, AV.str s]]
                                              [])))
                                      none)
                                  (onSome
                                    (dTri
                                      [AV.sl 5 true
                                          [[AV.str c, AV.int IntKind.i64 o, AV.int IntKind.i64 k, AV.int IntKind.i64 n,
                                              AV.str s]],
                                        frz x, frz y])
                                    none fun (o_5 : Tri) =>
                                    branch (AV.bool (triOk o_5))
                                      (branch
                                        (AV.bool
                                          (holdsF o_5.fst.list o_5.snd.fst.list o_5.snd.snd.list ==
                                            (truF o_2.fst o_2.snd.fst.list o_2.snd.snd.list == 1)))
                                        (onSome
                                          (dTri
                                            [AV.sl 5 true
                                                [[AV.str c, AV.int IntKind.i64 o, AV.int IntKind.i64 k,
                                                    AV.int IntKind.i64 n, AV.str s]],
                                              frz x, frz y])
                                          none fun (o : Tri) =>
                                          branch (AV.bool (triOk o))
                                            (some
                                              (Fin.ret
                                                  (AV.bool
                                                    (refusesF o.fst.list o.snd.fst.list o.snd.snd.list ==
                                                      (truF o_2.fst o_2.snd.fst.list o_2.snd.snd.list == 0))),
                                                St.mk
                                                  [Ob.cells
                                                      [AV.str c, AV.int IntKind.i64 1, AV.int IntKind.i64 k,
                                                        AV.int IntKind.i64 n, AV.str s]]
                                                  []))
                                            none)
                                        (some
                                          (Fin.ret (AV.bool false),
                                            St.mk
                                              [Ob.cells
                                                  [AV.str c, AV.int IntKind.i64 1, AV.int IntKind.i64 k,
                                                    AV.int IntKind.i64 n, AV.str s]]
                                              [])))
                                      none))
                                none))
                          (onSome
                            (dTri
                              [AV.sl 5 true
                                  [[AV.str c, AV.int IntKind.i64 o, AV.int IntKind.i64 k, AV.int IntKind.i64 n, AV.str s]],
                                frz x, frz y])
                            none fun (o_4 : Tri) =>
                            branch (AV.bool (triOk o_4))
                              (branch (AV.bool (holdsF o_4.fst.list o_4.snd.fst.list o_4.snd.snd.list))
                                (onSome
                                  (dTri
                                    [AV.sl 5 true
                                        [[AV.str c, AV.int IntKind.i64 o, AV.int IntKind.i64 k, AV.int IntKind.i64 n,
                                            AV.str s]],
                                      frz x, frz y])
                                  none fun (o_5 : Tri) =>
                                  branch (AV.bool (triOk o_5))
                                    (branch (AV.bool !refusesF o_5.fst.list o_5.snd.fst.list o_5.snd.snd.list)
                                      (onSome
                                        (dTri
                                          [AV.sl 5 true
                                              [[AV.str c, AV.int IntKind.i64 o, AV.int IntKind.i64 k, AV.int IntKind.i64 n,
                                                  AV.str s]],
                                            frz x, frz y])
                                        none fun (o_6 : Tri) =>
                                        branch (AV.bool (triOk o_6))
                                          (branch
                                            (AV.bool
                                              (holdsF o_6.fst.list o_6.snd.fst.list o_6.snd.snd.list ==
                                                (truF o_2.fst o_2.snd.fst.list o_2.snd.snd.list == 1)))
                                            (onSome
                                              (dTri
                                                [AV.sl 5 true
                                                    [[AV.str c, AV.int IntKind.i64 o, AV.int IntKind.i64 k,
                                                        AV.int IntKind.i64 n, AV.str s]],
                                                  frz x, frz y])
                                              none fun (o : Tri) =>
                                              branch (AV.bool (triOk o))
                                                (some
                                                  (Fin.ret
                                                      (AV.bool
                                                        (refusesF o.fst.list o.snd.fst.list o.snd.snd.list ==
                                                          (truF o_2.fst o_2.snd.fst.list o_2.snd.snd.list == 0))),
                                                    St.mk
                                                      [Ob.cells
                                                          [AV.str c, AV.int IntKind.i64 1, AV.int IntKind.i64 k,
                                                            AV.int IntKind.i64 n, AV.str s]]
                                                      []))
                                                none)
                                            (some
                                              (Fin.ret (AV.bool false),
                                                St.mk
                                                  [Ob.cells
                                                      [AV.str c, AV.int IntKind.i64 1, AV.int IntKind.i64 k,
                                                        AV.int IntKind.i64 n, AV.str s]]
                                                  [])))
                                          none)
                                      (some
                                        (Fin.ret (AV.bool false),
                                          St.mk
                                            [Ob.cells
                                                [AV.str c, AV.int IntKind.i64 1, AV.int IntKind.i64 k, AV.int IntKind.i64 n,
                                                  AV.str s]]
                                            [])))
                                    none)
                                (onSome
                                  (dTri
                                    [AV.sl 5 true
                                        [[AV.str c, AV.int IntKind.i64 o, AV.int IntKind.i64 k, AV.int IntKind.i64 n,
                                            AV.str s]],
                                      frz x, frz y])
                                  none fun (o_5 : Tri) =>
                                  branch (AV.bool (triOk o_5))
                                    (branch
                                      (AV.bool
                                        (holdsF o_5.fst.list o_5.snd.fst.list o_5.snd.snd.list ==
                                          (truF o_2.fst o_2.snd.fst.list o_2.snd.snd.list == 1)))
                                      (onSome
                                        (dTri
                                          [AV.sl 5 true
                                              [[AV.str c, AV.int IntKind.i64 o, AV.int IntKind.i64 k, AV.int IntKind.i64 n,
                                                  AV.str s]],
                                            frz x, frz y])
                                        none fun (o : Tri) =>
                                        branch (AV.bool (triOk o))
                                          (some
                                            (Fin.ret
                                                (AV.bool
                                                  (refusesF o.fst.list o.snd.fst.list o.snd.snd.list ==
                                                    (truF o_2.fst o_2.snd.fst.list o_2.snd.snd.list == 0))),
                                              St.mk
                                                [Ob.cells
                                                    [AV.str c, AV.int IntKind.i64 1, AV.int IntKind.i64 k,
                                                      AV.int IntKind.i64 n, AV.str s]]
                                                []))
                                          none)
                                      (some
                                        (Fin.ret (AV.bool false),
                                          St.mk
                                            [Ob.cells
                                                [AV.str c, AV.int IntKind.i64 1, AV.int IntKind.i64 k, AV.int IntKind.i64 n,
                                                  AV.str s]]
                                            [])))
                                    none))
                              none)))
                      none)
                  none)
              (branch (AV.bool (o == 5))
                (onSome
                  (dTr
                    [AV.agg [AV.str c, AV.int IntKind.i64 o, AV.int IntKind.i64 k, AV.int IntKind.i64 n, AV.str s], x, y])
                  none fun (o_2 : Cd × Br × Br) =>
                  branch (AV.bool (okC o_2.snd.fst && okV o_2.snd.snd))
                    (onSome
                      (dTr
                        [AV.agg [AV.str c, AV.int IntKind.i64 6, AV.int IntKind.i64 k, AV.int IntKind.i64 n, AV.str s], x,
                          y])
                      none fun (o_3 : Cd × Br × Br) =>
                      branch (AV.bool (okC o_3.snd.fst && okV o_3.snd.snd))
                        (branch (AV.bool (6 != o))
                          (branch
                            (AV.bool
                              !decide (truF o_2.fst o_2.snd.fst.list o_2.snd.snd.list < 0) ==
                                  decide (truF o_3.fst o_3.snd.fst.list o_3.snd.snd.list < 0))
                            (some
                              (Fin.ret (AV.bool false),
                                St.mk
                                  [Ob.cells
                                      [AV.str c, AV.int IntKind.i64 6, AV.int IntKind.i64 k, AV.int IntKind.i64 n,
                                        AV.str s]]
                                  []))
                            (branch (AV.bool (6 != o))
                              (branch (AV.bool (decide (truF o_2.fst o_2.snd.fst.list o_2.snd.snd.list ≥ 0)))
                                (branch
                                  (AV.bool
                                    (truF o_2.fst o_2.snd.fst.list o_2.snd.snd.list ==
                                      truF o_3.fst o_3.snd.fst.list o_3.snd.snd.list))
                                  (some
                                    (Fin.ret (AV.bool false),
                                      St.mk
                                        [Ob.cells
                                            [AV.str c, AV.int IntKind.i64 6, AV.int IntKind.i64 k, AV.int IntKind.i64 n,
                                              AV.str s]]
                                        []))
                                  (onSome
                                    (dTri
                                      [AV.sl 5 true
                                          [[AV.str c, AV.int IntKind.i64 o, AV.int IntKind.i64 k, AV.int IntKind.i64 n,
                                              AV.str s]],
                                        frz x, frz y])
                                    none fun (o_4 : Tri) =>
                                    branch (AV.bool (triOk o_4))
                                      (branch (AV.bool (holdsF o_4.fst.list o_4.snd.fst.list o_4.snd.snd.list))
                                        (onSome
                                          (dTri
                                            [AV.sl 5 true
                                                [[AV.str c, AV.int IntKind.i64 o, AV.int IntKind.i64 k,
                                                    AV.int IntKind.i64 n, AV.str s]],
                                              frz x, frz y])
                                          none fun (o_5 : Tri) =>
                                          branch (AV.bool (triOk o_5))
                                            (branch (AV.bool !refusesF o_5.fst.list o_5.snd.fst.list o_5.snd.snd.list)
                                              (onSome
                                                (dTri
                                                  [AV.sl 5 true
                                                      [[AV.str c, AV.int IntKind.i64 o, AV.int IntKind.i64 k,
                                                          AV.int IntKind.i64 n, AV.str s]],
                                                    frz x, frz y])
                                                none fun (o_6 : Tri) =>
                                                branch (AV.bool (triOk o_6))
                                                  (branch
                                                    (AV.bool
                                                      (holdsF o_6.fst.list o_6.snd.fst.list o_6.snd.snd.list ==
                                                        (truF o_2.fst o_2.snd.fst.list o_2.snd.snd.list == 1)))
                                                    (onSome
                                                      (dTri
                                                        [AV.sl 5 true
                                                            [[AV.str c, AV.int IntKind.i64 o, AV.int IntKind.i64 k,
                                                                AV.int IntKind.i64 n, AV.str s]],
                                                          frz x, frz y])
                                                      none fun (o : Tri) =>
                                                      branch (AV.bool (triOk o))
                                                        (some
                                                          (Fin.ret
                                                              (AV.bool
                                                                (refusesF o.fst.list o.snd.fst.list o.snd.snd.list ==
                                                                  (truF o_2.fst o_2.snd.fst.list o_2.snd.snd.list == 0))),
                                                            St.mk
                                                              [Ob.cells
                                                                  [AV.str c, AV.int IntKind.i64 6, AV.int IntKind.i64 k,
                                                                    AV.int IntKind.i64 n, AV.str s]]
                                                              []))
                                                        none)
                                                    (some
                                                      (Fin.ret (AV.bool false),
                                                        St.mk
                                                          [Ob.cells
                                                              [AV.str c, AV.int IntKind.i64 6, AV.int IntKind.i64 k,
                                                                AV.int IntKind.i64 n, AV.str s]]
                                                          [])))
                                                  none)
                                              (some
                                                (Fin.ret (AV.bool false),
                                                  St.mk
                                                    [Ob.cells
                                                        [AV.str c, AV.int IntKind.i64 6, AV.int IntKind.i64 k,
                                                          AV.int IntKind.i64 n, AV.str s]]
                                                    [])))
                                            none)
                                        (onSome
                                          (dTri
                                            [AV.sl 5 true
                                                [[AV.str c, AV.int IntKind.i64 o, AV.int IntKind.i64 k,
                                                    AV.int IntKind.i64 n, AV.str s]],
                                              frz x, frz y])
                                          none fun (o_5 : Tri) =>
                                          branch (AV.bool (triOk o_5))
                                            (branch
                                              (AV.bool
                                                (holdsF o_5.fst.list o_5.snd.fst.list o_5.snd.snd.list ==
                                                  (truF o_2.fst o_2.snd.fst.list o_2.snd.snd.list == 1)))
                                              (onSome
                                                (dTri
                                                  [AV.sl 5 true
                                                      [[AV.str c, AV.int IntKind.i64 o, AV.int IntKind.i64 k,
                                                          AV.int IntKind.i64 n, AV.str s]],
                                                    frz x, frz y])
                                                none fun (o : Tri) =>
                                                branch (AV.bool (triOk o))
                                                  (some
                                                    (Fin.ret
                                                        (AV.bool
                                                          (refusesF o.fst.list o.snd.fst.list o.snd.snd.list ==
                                                            (truF o_2.fst o_2.snd.fst.list o_2.snd.snd.list == 0))),
                                                      St.mk
                                                        [Ob.cells
                                                            [AV.str c, AV.int IntKind.i64 6, AV.int IntKind.i64 k,
                                                              AV.int IntKind.i64 n, AV.str s]]
                                                        []))
                                                  none)
                                              (some
                                                (Fin.ret (AV.bool false),
                                                  St.mk
                                                    [Ob.cells
                                                        [AV.str c, AV.int IntKind.i64 6, AV.int IntKind.i64 k,
                                                          AV.int IntKind.i64 n, AV.str s]]
                                                    [])))
                                            none))
                                      none))
                                (onSome
                                  (dTri
                                    [AV.sl 5 true
                                        [[AV.str c, AV.int IntKind.i64 o, AV.int IntKind.i64 k, AV.int IntKind.i64 n,
                                            AV.str s]],
                                      frz x, frz y])
                                  none fun (o_4 : Tri) =>
                                  branch (AV.bool (triOk o_4))
                                    (branch (AV.bool (holdsF o_4.fst.list o_4.snd.fst.list o_4.snd.snd.list))
                                      (onSome
                                        (dTri
                                          [AV.sl 5 true
                                              [[AV.str c, AV.int IntKind.i64 o, AV.int IntKind.i64 k, AV.int IntKind.i64 n,
                                                  AV.str s]],
                                            frz x, frz y])
                                        none fun (o_5 : Tri) =>
                                        branch (AV.bool (triOk o_5))
                                          (branch (AV.bool !refusesF o_5.fst.list o_5.snd.fst.list o_5.snd.snd.list)
                                            (onSome
                                              (dTri
                                                [AV.sl 5 true
                                                    [[AV.str c, AV.int IntKind.i64 o, AV.int IntKind.i64 k,
                                                        AV.int IntKind.i64 n, AV.str s]],
                                                  frz x, frz y])
                                              none fun (o_6 : Tri) =>
                                              branch (AV.bool (triOk o_6))
                                                (branch
                                                  (AV.bool
                                                    (holdsF o_6.fst.list o_6.snd.fst.list o_6.snd.snd.list ==
                                                      (truF o_2.fst o_2.snd.fst.list o_2.snd.snd.list == 1)))
                                                  (onSome
                                                    (dTri
                                                      [AV.sl 5 true
                                                          [[AV.str c, AV.int IntKind.i64 o, AV.int IntKind.i64 k,
                                                              AV.int IntKind.i64 n, AV.str s]],
                                                        frz x, frz y])
                                                    none fun (o : Tri) =>
                                                    branch (AV.bool (triOk o))
                                                      (some
                                                        (Fin.ret
                                                            (AV.bool
                                                              (refusesF o.fst.list o.snd.fst.list o.snd.snd.list ==
                                                                (truF o_2.fst o_2.snd.fst.list o_2.snd.snd.list == 0))),
                                                          St.mk
                                                            [Ob.cells
                                                                [AV.str c, AV.int IntKind.i64 6, AV.int IntKind.i64 k,
                                                                  AV.int IntKind.i64 n, AV.str s]]
                                                            []))
                                                      none)
                                                  (some
                                                    (Fin.ret (AV.bool false),
                                                      St.mk
                                                        [Ob.cells
                                                            [AV.str c, AV.int IntKind.i64 6, AV.int IntKind.i64 k,
                                                              AV.int IntKind.i64 n, AV.str s]]
                                                        [])))
                                                none)
                                            (some
                                              (Fin.ret (AV.bool false),
                                                St.mk
                                                  [Ob.cells
                                                      [AV.str c, AV.int IntKind.i64 6, AV.int IntKind.i64 k,
                                                        AV.int IntKind.i64 n, AV.str s]]
                                                  [])))
                                          none)
                                      (onSome
                                        (dTri
                                          [AV.sl 5 true
                                              [[AV.str c, AV.int IntKind.i64 o, AV.int IntKind.i64 k, AV.int IntKind.i64 n,
                                                  AV.str s]],
                                            frz x, frz y])
                                        none fun (o_5 : Tri) =>
                                        branch (AV.bool (triOk o_5))
                                          (branch
                                            (AV.bool
                                              (holdsF o_5.fst.list o_5.snd.fst.list o_5.snd.snd.list ==
                                                (truF o_2.fst o_2.snd.fst.list o_2.snd.snd.list == 1)))
                                            (onSome
                                              (dTri
                                                [AV.sl 5 true
                                                    [[AV.str c, AV.int IntKind.i64 o, AV.int IntKind.i64 k,
                                                        AV.int IntKind.i64 n, AV.str s]],
                                                  frz x, frz y])
                                              none fun (o : Tri) =>
                                              branch (AV.bool (triOk o))
                                                (some
                                                  (Fin.ret
                                                      (AV.bool
                                                        (refusesF o.fst.list o.snd.fst.list o.snd.snd.list ==
                                                          (truF o_2.fst o_2.snd.fst.list o_2.snd.snd.list == 0))),
                                                    St.mk
                                                      [Ob.cells
                                                          [AV.str c, AV.int IntKind.i64 6, AV.int IntKind.i64 k,
                                                            AV.int IntKind.i64 n, AV.str s]]
                                                      []))
                                                none)
                                            (some
                                              (Fin.ret (AV.bool false),
                                                St.mk
                                                  [Ob.cells
                                                      [AV.str c, AV.int IntKind.i64 6, AV.int IntKind.i64 k,
                                                        AV.int IntKind.i64 n, AV.str s]]
                                                  [])))
                                          none))
                                    none))
                              (onSome
                                (dTri
                                  [AV.sl 5 true
                                      [[AV.str c, AV.int IntKind.i64 o, AV.int IntKind.i64 k, AV.int IntKind.i64 n,
                                          AV.str s]],
                                    frz x, frz y])
                                none fun (o_4 : Tri) =>
                                branch (AV.bool (triOk o_4))
                                  (branch (AV.bool (holdsF o_4.fst.list o_4.snd.fst.list o_4.snd.snd.list))
                                    (onSome
                                      (dTri
                                        [AV.sl 5 true
                                            [[AV.str c, AV.int IntKind.i64 o, AV.int IntKind.i64 k, AV.int IntKind.i64 n,
                                                AV.str s]],
                                          frz x, frz y])
                                      none fun (o_5 : Tri) =>
                                      branch (AV.bool (triOk o_5))
                                        (branch (AV.bool !refusesF o_5.fst.list o_5.snd.fst.list o_5.snd.snd.list)
                                          (onSome
                                            (dTri
                                              [AV.sl 5 true
                                                  [[AV.str c, AV.int IntKind.i64 o, AV.int IntKind.i64 k,
                                                      AV.int IntKind.i64 n, AV.str s]],
                                                frz x, frz y])
                                            none fun (o_6 : Tri) =>
                                            branch (AV.bool (triOk o_6))
                                              (branch
                                                (AV.bool
                                                  (holdsF o_6.fst.list o_6.snd.fst.list o_6.snd.snd.list ==
                                                    (truF o_2.fst o_2.snd.fst.list o_2.snd.snd.list == 1)))
                                                (onSome
                                                  (dTri
                                                    [AV.sl 5 true
                                                        [[AV.str c, AV.int IntKind.i64 o, AV.int IntKind.i64 k,
                                                            AV.int IntKind.i64 n, AV.str s]],
                                                      frz x, frz y])
                                                  none fun (o : Tri) =>
                                                  branch (AV.bool (triOk o))
                                                    (some
                                                      (Fin.ret
                                                          (AV.bool
                                                            (refusesF o.fst.list o.snd.fst.list o.snd.snd.list ==
                                                              (truF o_2.fst o_2.snd.fst.list o_2.snd.snd.list == 0))),
                                                        St.mk
                                                          [Ob.cells
                                                              [AV.str c, AV.int IntKind.i64 6, AV.int IntKind.i64 k,
                                                                AV.int IntKind.i64 n, AV.str s]]
                                                          []))
                                                    none)
                                                (some
                                                  (Fin.ret (AV.bool false),
                                                    St.mk
                                                      [Ob.cells
                                                          [AV.str c, AV.int IntKind.i64 6, AV.int IntKind.i64 k,
                                                            AV.int IntKind.i64 n, AV.str s]]
                                                      [])))
                                              none)
                                          (some
                                            (Fin.ret (AV.bool false),
                                              St.mk
                                                [Ob.cells
                                                    [AV.str c, AV.int IntKind.i64 6, AV.int IntKind.i64 k,
                                                      AV.int IntKind.i64 n, AV.str s]]
                                                [])))
                                        none)
                                    (onSome
                                      (dTri
                                        [AV.sl 5 true
                                            [[AV.str c, AV.int IntKind.i64 o, AV.int IntKind.i64 k, AV.int IntKind.i64 n,
                                                AV.str s]],
                                          frz x, frz y])
                                      none fun (o_5 : Tri) =>
                                      branch (AV.bool (triOk o_5))
                                        (branch
                                          (AV.bool
                                            (holdsF o_5.fst.list o_5.snd.fst.list o_5.snd.snd.list ==
                                              (truF o_2.fst o_2.snd.fst.list o_2.snd.snd.list == 1)))
                                          (onSome
                                            (dTri
                                              [AV.sl 5 true
                                                  [[AV.str c, AV.int IntKind.i64 o, AV.int IntKind.i64 k,
                                                      AV.int IntKind.i64 n, AV.str s]],
                                                frz x, frz y])
                                            none fun (o : Tri) =>
                                            branch (AV.bool (triOk o))
                                              (some
                                                (Fin.ret
                                                    (AV.bool
                                                      (refusesF o.fst.list o.snd.fst.list o.snd.snd.list ==
                                                        (truF o_2.fst o_2.snd.fst.list o_2.snd.snd.list == 0))),
                                                  St.mk
                                                    [Ob.cells
                                                        [AV.str c, AV.int IntKind.i64 6, AV.int IntKind.i64 k,
                                                          AV.int IntKind.i64 n, AV.str s]]
                                                    []))
                                              none)
                                          (some
                                            (Fin.ret (AV.bool false),
                                              St.mk
                                                [Ob.cells
                                                    [AV.str c, AV.int IntKind.i64 6, AV.int IntKind.i64 k,
                                                      AV.int IntKind.i64 n, AV.str s]]
                                                [])))
                                        none))
                                  none)))
                          (branch (AV.bool (6 != o))
                            (branch (AV.bool (decide (truF o_2.fst o_2.snd.fst.list o_2.snd.snd.list ≥ 0)))
                              (branch
                                (AV.bool
                                  (truF o_2.fst o_2.snd.fst.list o_2.snd.snd.list ==
                                    truF o_3.fst o_3.snd.fst.list o_3.snd.snd.list))
                                (some
                                  (Fin.ret (AV.bool false),
                                    St.mk
                                      [Ob.cells
                                          [AV.str c, AV.int IntKind.i64 6, AV.int IntKind.i64 k, AV.int IntKind.i64 n,
                                            AV.str s]]
                                      []))
                                (onSome
                                  (dTri
                                    [AV.sl 5 true
                                        [[AV.str c, AV.int IntKind.i64 o, AV.int IntKind.i64 k, AV.int IntKind.i64 n,
                                            AV.str s]],
                                      frz x, frz y])
                                  none fun (o_4 : Tri) =>
                                  branch (AV.bool (triOk o_4))
                                    (branch (AV.bool (holdsF o_4.fst.list o_4.snd.fst.list o_4.snd.snd.list))
                                      (onSome
                                        (dTri
                                          [AV.sl 5 true
                                              [[AV.str c, AV.int IntKind.i64 o, AV.int IntKind.i64 k, AV.int IntKind.i64 n,
                                                  AV.str s]],
                                            frz x, frz y])
                                        none fun (o_5 : Tri) =>
                                        branch (AV.bool (triOk o_5))
                                          (branch (AV.bool !refusesF o_5.fst.list o_5.snd.fst.list o_5.snd.snd.list)
                                            (onSome
                                              (dTri
                                                [AV.sl 5 true
                                                    [[AV.str c, AV.int IntKind.i64 o, AV.int IntKind.i64 k,
                                                        AV.int IntKind.i64 n, AV.str s]],
                                                  frz x, frz y])
                                              none fun (o_6 : Tri) =>
                                              branch (AV.bool (triOk o_6))
                                                (branch
                                                  (AV.bool
                                                    (holdsF o_6.fst.list o_6.snd.fst.list o_6.snd.snd.list ==
                                                      (truF o_2.fst o_2.snd.fst.list o_2.snd.snd.list == 1)))
                                                  (onSome
                                                    (dTri
                                                      [AV.sl 5 true
                                                          [[AV.str c, AV.int IntKind.i64 o, AV.int IntKind.i64 k,
                                                              AV.int IntKind.i64 n, AV.str s]],
                                                        frz x, frz y])
                                                    none fun (o : Tri) =>
                                                    branch (AV.bool (triOk o))
                                                      (some
                                                        (Fin.ret
                                                            (AV.bool
                                                              (refusesF o.fst.list o.snd.fst.list o.snd.snd.list ==
                                                                (truF o_2.fst o_2.snd.fst.list o_2.snd.snd.list == 0))),
                                                          St.mk
                                                            [Ob.cells
                                                                [AV.str c, AV.int IntKind.i64 6, AV.int IntKind.i64 k,
                                                                  AV.int IntKind.i64 n, AV.str s]]
                                                            []))
                                                      none)
                                                  (some
                                                    (Fin.ret (AV.bool false),
                                                      St.mk
                                                        [Ob.cells
                                                            [AV.str c, AV.int IntKind.i64 6, AV.int IntKind.i64 k,
                                                              AV.int IntKind.i64 n, AV.str s]]
                                                        [])))
                                                none)
                                            (some
                                              (Fin.ret (AV.bool false),
                                                St.mk
                                                  [Ob.cells
                                                      [AV.str c, AV.int IntKind.i64 6, AV.int IntKind.i64 k,
                                                        AV.int IntKind.i64 n, AV.str s]]
                                                  [])))
                                          none)
                                      (onSome
                                        (dTri
                                          [AV.sl 5 true
                                              [[AV.str c, AV.int IntKind.i64 o, AV.int IntKind.i64 k, AV.int IntKind.i64 n,
                                                  AV.str s]],
                                            frz x, frz y])
                                        none fun (o_5 : Tri) =>
                                        branch (AV.bool (triOk o_5))
                                          (branch
                                            (AV.bool
                                              (holdsF o_5.fst.list o_5.snd.fst.list o_5.snd.snd.list ==
                                                (truF o_2.fst o_2.snd.fst.list o_2.snd.snd.list == 1)))
                                            (onSome
                                              (dTri
                                                [AV.sl 5 true
                                                    [[AV.str c, AV.int IntKind.i64 o, AV.int IntKind.i64 k,
                                                        AV.int IntKind.i64 n, AV.str s]],
                                                  frz x, frz y])
                                              none fun (o : Tri) =>
                                              branch (AV.bool (triOk o))
                                                (some
                                                  (Fin.ret
                                                      (AV.bool
                                                        (refusesF o.fst.list o.snd.fst.list o.snd.snd.list ==
                                                          (truF o_2.fst o_2.snd.fst.list o_2.snd.snd.list == 0))),
                                                    St.mk
                                                      [Ob.cells
                                                          [AV.str c, AV.int IntKind.i64 6, AV.int IntKind.i64 k,
                                                            AV.int IntKind.i64 n, AV.str s]]
                                                      []))
                                                none)
                                            (some
                                              (Fin.ret (AV.bool false),
                                                St.mk
                                                  [Ob.cells
                                                      [AV.str c, AV.int IntKind.i64 6, AV.int IntKind.i64 k,
                                                        AV.int IntKind.i64 n, AV.str s]]
                                                  [])))
                                          none))
                                    none))
                              (onSome
                                (dTri
                                  [AV.sl 5 true
                                      [[AV.str c, AV.int IntKind.i64 o, AV.int IntKind.i64 k, AV.int IntKind.i64 n,
                                          AV.str s]],
                                    frz x, frz y])
                                none fun (o_4 : Tri) =>
                                branch (AV.bool (triOk o_4))
                                  (branch (AV.bool (holdsF o_4.fst.list o_4.snd.fst.list o_4.snd.snd.list))
                                    (onSome
                                      (dTri
                                        [AV.sl 5 true
                                            [[AV.str c, AV.int IntKind.i64 o, AV.int IntKind.i64 k, AV.int IntKind.i64 n,
                                                AV.str s]],
                                          frz x, frz y])
                                      none fun (o_5 : Tri) =>
                                      branch (AV.bool (triOk o_5))
                                        (branch (AV.bool !refusesF o_5.fst.list o_5.snd.fst.list o_5.snd.snd.list)
                                          (onSome
                                            (dTri
                                              [AV.sl 5 true
                                                  [[AV.str c, AV.int IntKind.i64 o, AV.int IntKind.i64 k,
                                                      AV.int IntKind.i64 n, AV.str s]],
                                                frz x, frz y])
                                            none fun (o_6 : Tri) =>
                                            branch (AV.bool (triOk o_6))
                                              (branch
                                                (AV.bool
                                                  (holdsF o_6.fst.list o_6.snd.fst.list o_6.snd.snd.list ==
                                                    (truF o_2.fst o_2.snd.fst.list o_2.snd.snd.list == 1)))
                                                (onSome
                                                  (dTri
                                                    [AV.sl 5 true
                                                        [[AV.str c, AV.int IntKind.i64 o, AV.int IntKind.i64 k,
                                                            AV.int IntKind.i64 n, AV.str s]],
                                                      frz x, frz y])
                                                  none fun (o : Tri) =>
                                                  branch (AV.bool (triOk o))
                                                    (some
                                                      (Fin.ret
                                                          (AV.bool
                                                            (refusesF o.fst.list o.snd.fst.list o.snd.snd.list ==
                                                              (truF o_2.fst o_2.snd.fst.list o_2.snd.snd.list == 0))),
                                                        St.mk
                                                          [Ob.cells
                                                              [AV.str c, AV.int IntKind.i64 6, AV.int IntKind.i64 k,
                                                                AV.int IntKind.i64 n, AV.str s]]
                                                          []))
                                                    none)
                                                (some
                                                  (Fin.ret (AV.bool false),
                                                    St.mk
                                                      [Ob.cells
                                                          [AV.str c, AV.int IntKind.i64 6, AV.int IntKind.i64 k,
                                                            AV.int IntKind.i64 n, AV.str s]]
                                                      [])))
                                              none)
                                          (some
                                            (Fin.ret (AV.bool false),
                                              St.mk
                                                [Ob.cells
                                                    [AV.str c, AV.int IntKind.i64 6, AV.int IntKind.i64 k,
                                                      AV.int IntKind.i64 n, AV.str s]]
                                                [])))
                                        none)
                                    (onSome
                                      (dTri
                                        [AV.sl 5 true
                                            [[AV.str c, AV.int IntKind.i64 o, AV.int IntKind.i64 k, AV.int IntKind.i64 n,
                                                AV.str s]],
                                          frz x, frz y])
                                      none fun (o_5 : Tri) =>
                                      branch (AV.bool (triOk o_5))
                                        (branch
                                          (AV.bool
                                            (holdsF o_5.fst.list o_5.snd.fst.list o_5.snd.snd.list ==
                                              (truF o_2.fst o_2.snd.fst.list o_2.snd.snd.list == 1)))
                                          (onSome
                                            (dTri
                                              [AV.sl 5 true
                                                  [[AV.str c, AV.int IntKind.i64 o, AV.int IntKind.i64 k,
                                                      AV.int IntKind.i64 n, AV.str s]],
                                                frz x, frz y])
                                            none fun (o : Tri) =>
                                            branch (AV.bool (triOk o))
                                              (some
                                                (Fin.ret
                                                    (AV.bool
                                                      (refusesF o.fst.list o.snd.fst.list o.snd.snd.list ==
                                                        (truF o_2.fst o_2.snd.fst.list o_2.snd.snd.list == 0))),
                                                  St.mk
                                                    [Ob.cells
                                                        [AV.str c, AV.int IntKind.i64 6, AV.int IntKind.i64 k,
                                                          AV.int IntKind.i64 n, AV.str s]]
                                                    []))
                                              none)
                                          (some
                                            (Fin.ret (AV.bool false),
                                              St.mk
                                                [Ob.cells
                                                    [AV.str c, AV.int IntKind.i64 6, AV.int IntKind.i64 k,
                                                      AV.int IntKind.i64 n, AV.str s]]
                                                [])))
                                        none))
                                  none))
                            (onSome
                              (dTri
                                [AV.sl 5 true
                                    [[AV.str c, AV.int IntKind.i64 o, AV.int IntKind.i64 k, AV.int IntKind.i64 n,
                                        AV.str s]],
                                  frz x, frz y])
                              none fun (o_4 : Tri) =>
                              branch (AV.bool (triOk o_4))
                                (branch (AV.bool (holdsF o_4.fst.list o_4.snd.fst.list o_4.snd.snd.list))
                                  (onSome
                                    (dTri
                                      [AV.sl 5 true
                                          [[AV.str c, AV.int IntKind.i64 o, AV.int IntKind.i64 k, AV.int IntKind.i64 n,
                                              AV.str s]],
                                        frz x, frz y])
                                    none fun (o_5 : Tri) =>
                                    branch (AV.bool (triOk o_5))
                                      (branch (AV.bool !refusesF o_5.fst.list o_5.snd.fst.list o_5.snd.snd.list)
                                        (onSome
                                          (dTri
                                            [AV.sl 5 true
                                                [[AV.str c, AV.int IntKind.i64 o, AV.int IntKind.i64 k,
                                                    AV.int IntKind.i64 n, AV.str s]],
                                              frz x, frz y])
                                          none fun (o_6 : Tri) =>
                                          branch (AV.bool (triOk o_6))
                                            (branch
                                              (AV.bool
                                                (holdsF o_6.fst.list o_6.snd.fst.list o_6.snd.snd.list ==
                                                  (truF o_2.fst o_2.snd.fst.list o_2.snd.snd.list == 1)))
                                              (onSome
                                                (dTri
                                                  [AV.sl 5 true
                                                      [[AV.str c, AV.int IntKind.i64 o, AV.int IntKind.i64 k,
                                                          AV.int IntKind.i64 n, AV.str s]],
                                                    frz x, frz y])
                                                none fun (o : Tri) =>
                                                branch (AV.bool (triOk o))
                                                  (some
                                                    (Fin.ret
                                                        (AV.bool
                                                          (refusesF o.fst.list o.snd.fst.list o.snd.snd.list ==
                                                            (truF o_2.fst o_2.snd.fst.list o_2.snd.snd.list == 0))),
                                                      St.mk
                                                        [Ob.cells
                                                            [AV.str c, AV.int IntKind.i64 6, AV.int IntKind.i64 k,
                                                              AV.int IntKind.i64 n, AV.str s]]
                                                        []))
                                                  none)
                                              (some
                                                (Fin.ret (AV.bool false),
                                                  St.mk
                                                    [Ob.cells
                                                        [AV.str c, AV.int IntKind.i64 6, AV.int IntKind.i64 k,
                                                          AV.int IntKind.i64 n, AV.str s]]
                                                    [])))
                                            none)
                                        (some
                                          (Fin.ret (AV.bool false),
                                            St.mk
                                              [Ob.cells
                                                  [AV.str c, AV.int IntKind.i64 6, AV.int IntKind.i64 k,
                                                    AV.int IntKind.i64 n, AV.str s]]
                                              [])))
                                      none)
                                  (onSome
                                    (dTri
                                      [AV.sl 5 true
                                          [[AV.str c, AV.int IntKind.i64 o, AV.int IntKind.i64 k, AV.int IntKind.i64 n,
                                              AV.str s]],
                                        frz x, frz y])
                                    none fun (o_5 : Tri) =>
                                    branch (AV.bool (triOk o_5))
                                      (branch
                                        (AV.bool
                                          (holdsF o_5.fst.list o_5.snd.fst.list o_5.snd.snd.list ==
                                            (truF o_2.fst o_2.snd.fst.list o_2.snd.snd.list == 1)))
                                        (onSome
                                          (dTri
                                            [AV.sl 5 true
                                                [[AV.str c, AV.int IntKind.i64 o, AV.int IntKind.i64 k,
                                                    AV.int IntKind.i64 n, AV.str s]],
                                              frz x, frz y])
                                          none fun (o : Tri) =>
                                          branch (AV.bool (triOk o))
                                            (some
                                              (Fin.ret
                                                  (AV.bool
                                                    (refusesF o.fst.list o.snd.fst.list o.snd.snd.list ==
                                                      (truF o_2.fst o_2.snd.fst.list o_2.snd.snd.list == 0))),
                                                St.mk
                                                  [Ob.cells
                                                      [AV.str c, AV.int IntKind.i64 6, AV.int IntKind.i64 k,
                                                        AV.int IntKind.i64 n, AV.str s]]
                                                  []))
                                            none)
                                        (some
                                          (Fin.ret (AV.bool false),
                                            St.mk
                                              [Ob.cells
                                                  [AV.str c, AV.int IntKind.i64 6, AV.int IntKind.i64 k,
                                                    AV.int IntKind.i64 n, AV.str s]]
                                              [])))
                                      none))
                                none)))
                        none)
                    none)
                (branch (AV.bool (o == 6))
                  (onSome
                    (dTr
                      [AV.agg [AV.str c, AV.int IntKind.i64 o, AV.int IntKind.i64 k, AV.int IntKind.i64 n, AV.str s], x, y])
                    none fun (o_2 : Cd × Br × Br) =>
                    branch (AV.bool (okC o_2.snd.fst && okV o_2.snd.snd))
                      (onSome
                        (dTr
                          [AV.agg [AV.str c, AV.int IntKind.i64 5, AV.int IntKind.i64 k, AV.int IntKind.i64 n, AV.str s], x,
                            y])
                        none fun (o_3 : Cd × Br × Br) =>
                        branch (AV.bool (okC o_3.snd.fst && okV o_3.snd.snd))
                          (branch (AV.bool (5 != o))
                            (branch
                              (AV.bool
                                !decide (truF o_2.fst o_2.snd.fst.list o_2.snd.snd.list < 0) ==
                                    decide (truF o_3.fst o_3.snd.fst.list o_3.snd.snd.list < 0))
                              (some
                                (Fin.ret (AV.bool false),
                                  St.mk
                                    [Ob.cells
                                        [AV.str c, AV.int IntKind.i64 5, AV.int IntKind.i64 k, AV.int IntKind.i64 n,
                                          AV.str s]]
                                    []))
                              (branch (AV.bool (5 != o))
                                (branch (AV.bool (decide (truF o_2.fst o_2.snd.fst.list o_2.snd.snd.list ≥ 0)))
                                  (branch
                                    (AV.bool
                                      (truF o_2.fst o_2.snd.fst.list o_2.snd.snd.list ==
                                        truF o_3.fst o_3.snd.fst.list o_3.snd.snd.list))
                                    (some
                                      (Fin.ret (AV.bool false),
                                        St.mk
                                          [Ob.cells
                                              [AV.str c, AV.int IntKind.i64 5, AV.int IntKind.i64 k, AV.int IntKind.i64 n,
                                                AV.str s]]
                                          []))
                                    (onSome
                                      (dTri
                                        [AV.sl 5 true
                                            [[AV.str c, AV.int IntKind.i64 o, AV.int IntKind.i64 k, AV.int IntKind.i64 n,
                                                AV.str s]],
                                          frz x, frz y])
                                      none fun (o_4 : Tri) =>
                                      branch (AV.bool (triOk o_4))
                                        (branch (AV.bool (holdsF o_4.fst.list o_4.snd.fst.list o_4.snd.snd.list))
                                          (onSome
                                            (dTri
                                              [AV.sl 5 true
                                                  [[AV.str c, AV.int IntKind.i64 o, AV.int IntKind.i64 k,
                                                      AV.int IntKind.i64 n, AV.str s]],
                                                frz x, frz y])
                                            none fun (o_5 : Tri) =>
                                            branch (AV.bool (triOk o_5))
                                              (branch (AV.bool !refusesF o_5.fst.list o_5.snd.fst.list o_5.snd.snd.list)
                                                (onSome
                                                  (dTri
                                                    [AV.sl 5 true
                                                        [[AV.str c, AV.int IntKind.i64 o, AV.int IntKind.i64 k,
                                                            AV.int IntKind.i64 n, AV.str s]],
                                                      frz x, frz y])
                                                  none fun (o_6 : Tri) =>
                                                  branch (AV.bool (triOk o_6))
                                                    (branch
                                                      (AV.bool
                                                        (holdsF o_6.fst.list o_6.snd.fst.list o_6.snd.snd.list ==
                                                          (truF o_2.fst o_2.snd.fst.list o_2.snd.snd.list == 1)))
                                                      (onSome
                                                        (dTri
                                                          [AV.sl 5 true
                                                              [[AV.str c, AV.int IntKind.i64 o, AV.int IntKind.i64 k,
                                                                  AV.int IntKind.i64 n, AV.str s]],
                                                            frz x, frz y])
                                                        none fun (o : Tri) =>
                                                        branch (AV.bool (triOk o))
                                                          (some
                                                            (Fin.ret
                                                                (AV.bool
                                                                  (refusesF o.fst.list o.snd.fst.list o.snd.snd.list ==
                                                                    (truF o_2.fst o_2.snd.fst.list o_2.snd.snd.list == 0))),
                                                              St.mk
                                                                [Ob.cells
                                                                    [AV.str c, AV.int IntKind.i64 5, AV.int IntKind.i64 k,
                                                                      AV.int IntKind.i64 n, AV.str s]]
                                                                []))
                                                          none)
                                                      (some
                                                        (Fin.ret (AV.bool false),
                                                          St.mk
                                                            [Ob.cells
                                                                [AV.str c, AV.int IntKind.i64 5, AV.int IntKind.i64 k,
                                                                  AV.int IntKind.i64 n, AV.str s]]
                                                            [])))
                                                    none)
                                                (some
                                                  (Fin.ret (AV.bool false),
                                                    St.mk
                                                      [Ob.cells
                                                          [AV.str c, AV.int IntKind.i64 5, AV.int IntKind.i64 k,
                                                            AV.int IntKind.i64 n, AV.str s]]
                                                      [])))
                                              none)
                                          (onSome
                                            (dTri
                                              [AV.sl 5 true
                                                  [[AV.str c, AV.int IntKind.i64 o, AV.int IntKind.i64 k,
                                                      AV.int IntKind.i64 n, AV.str s]],
                                                frz x, frz y])
                                            none fun (o_5 : Tri) =>
                                            branch (AV.bool (triOk o_5))
                                              (branch
                                                (AV.bool
                                                  (holdsF o_5.fst.list o_5.snd.fst.list o_5.snd.snd.list ==
                                                    (truF o_2.fst o_2.snd.fst.list o_2.snd.snd.list == 1)))
                                                (onSome
                                                  (dTri
                                                    [AV.sl 5 true
                                                        [[AV.str c, AV.int IntKind.i64 o, AV.int IntKind.i64 k,
                                                            AV.int IntKind.i64 n, AV.str s]],
                                                      frz x, frz y])
                                                  none fun (o : Tri) =>
                                                  branch (AV.bool (triOk o))
                                                    (some
                                                      (Fin.ret
                                                          (AV.bool
                                                            (refusesF o.fst.list o.snd.fst.list o.snd.snd.list ==
                                                              (truF o_2.fst o_2.snd.fst.list o_2.snd.snd.list == 0))),
                                                        St.mk
                                                          [Ob.cells
                                                              [AV.str c, AV.int IntKind.i64 5, AV.int IntKind.i64 k,
                                                                AV.int IntKind.i64 n, AV.str s]]
                                                          []))
                                                    none)
                                                (some
                                                  (Fin.ret (AV.bool false),
                                                    St.mk
                                                      [Ob.cells
                                                          [AV.str c, AV.int IntKind.i64 5, AV.int IntKind.i64 k,
                                                            AV.int IntKind.i64 n, AV.str s]]
                                                      [])))
                                              none))
                                        none))
                                  (onSome
                                    (dTri
                                      [AV.sl 5 true
                                          [[AV.str c, AV.int IntKind.i64 o, AV.int IntKind.i64 k, AV.int IntKind.i64 n,
                                              AV.str s]],
                                        frz x, frz y])
                                    none fun (o_4 : Tri) =>
                                    branch (AV.bool (triOk o_4))
                                      (branch (AV.bool (holdsF o_4.fst.list o_4.snd.fst.list o_4.snd.snd.list))
                                        (onSome
                                          (dTri
                                            [AV.sl 5 true
                                                [[AV.str c, AV.int IntKind.i64 o, AV.int IntKind.i64 k,
                                                    AV.int IntKind.i64 n, AV.str s]],
                                              frz x, frz y])
                                          none fun (o_5 : Tri) =>
                                          branch (AV.bool (triOk o_5))
                                            (branch (AV.bool !refusesF o_5.fst.list o_5.snd.fst.list o_5.snd.snd.list)
                                              (onSome
                                                (dTri
                                                  [AV.sl 5 true
                                                      [[AV.str c, AV.int IntKind.i64 o, AV.int IntKind.i64 k,
                                                          AV.int IntKind.i64 n, AV.str s]],
                                                    frz x, frz y])
                                                none fun (o_6 : Tri) =>
                                                branch (AV.bool (triOk o_6))
                                                  (branch
                                                    (AV.bool
                                                      (holdsF o_6.fst.list o_6.snd.fst.list o_6.snd.snd.list ==
                                                        (truF o_2.fst o_2.snd.fst.list o_2.snd.snd.list == 1)))
                                                    (onSome
                                                      (dTri
                                                        [AV.sl 5 true
                                                            [[AV.str c, AV.int IntKind.i64 o, AV.int IntKind.i64 k,
                                                                AV.int IntKind.i64 n, AV.str s]],
                                                          frz x, frz y])
                                                      none fun (o : Tri) =>
                                                      branch (AV.bool (triOk o))
                                                        (some
                                                          (Fin.ret
                                                              (AV.bool
                                                                (refusesF o.fst.list o.snd.fst.list o.snd.snd.list ==
                                                                  (truF o_2.fst o_2.snd.fst.list o_2.snd.snd.list == 0))),
                                                            St.mk
                                                              [Ob.cells
                                                                  [AV.str c, AV.int IntKind.i64 5, AV.int IntKind.i64 k,
                                                                    AV.int IntKind.i64 n, AV.str s]]
                                                              []))
                                                        none)
                                                    (some
                                                      (Fin.ret (AV.bool false),
                                                        St.mk
                                                          [Ob.cells
                                                              [AV.str c, AV.int IntKind.i64 5, AV.int IntKind.i64 k,
                                                                AV.int IntKind.i64 n, AV.str s]]
                                                          [])))
                                                  none)
                                              (some
                                                (Fin.ret (AV.bool false),
                                                  St.mk
                                                    [Ob.cells
                                                        [AV.str c, AV.int IntKind.i64 5, AV.int IntKind.i64 k,
                                                          AV.int IntKind.i64 n, AV.str s]]
                                                    [])))
                                            none)
                                        (onSome
                                          (dTri
                                            [AV.sl 5 true
                                                [[AV.str c, AV.int IntKind.i64 o, AV.int IntKind.i64 k,
                                                    AV.int IntKind.i64 n, AV.str s]],
                                              frz x, frz y])
                                          none fun (o_5 : Tri) =>
                                          branch (AV.bool (triOk o_5))
                                            (branch
                                              (AV.bool
                                                (holdsF o_5.fst.list o_5.snd.fst.list o_5.snd.snd.list ==
                                                  (truF o_2.fst o_2.snd.fst.list o_2.snd.snd.list == 1)))
                                              (onSome
                                                (dTri
                                                  [AV.sl 5 true
                                                      [[AV.str c, AV.int IntKind.i64 o, AV.int IntKind.i64 k,
                                                          AV.int IntKind.i64 n, AV.str s]],
                                                    frz x, frz y])
                                                none fun (o : Tri) =>
                                                branch (AV.bool (triOk o))
                                                  (some
                                                    (Fin.ret
                                                        (AV.bool
                                                          (refusesF o.fst.list o.snd.fst.list o.snd.snd.list ==
                                                            (truF o_2.fst o_2.snd.fst.list o_2.snd.snd.list == 0))),
                                                      St.mk
                                                        [Ob.cells
                                                            [AV.str c, AV.int IntKind.i64 5, AV.int IntKind.i64 k,
                                                              AV.int IntKind.i64 n, AV.str s]]
                                                        []))
                                                  none)
                                              (some
                                                (Fin.ret (AV.bool false),
                                                  St.mk
                                                    [Ob.cells
                                                        [AV.str c, AV.int IntKind.i64 5, AV.int IntKind.i64 k,
                                                          AV.int IntKind.i64 n, AV.str s]]
                                                    [])))
                                            none))
                                      none))
                                (onSome
                                  (dTri
                                    [AV.sl 5 true
                                        [[AV.str c, AV.int IntKind.i64 o, AV.int IntKind.i64 k, AV.int IntKind.i64 n,
                                            AV.str s]],
                                      frz x, frz y])
                                  none fun (o_4 : Tri) =>
                                  branch (AV.bool (triOk o_4))
                                    (branch (AV.bool (holdsF o_4.fst.list o_4.snd.fst.list o_4.snd.snd.list))
                                      (onSome
                                        (dTri
                                          [AV.sl 5 true
                                              [[AV.str c, AV.int IntKind.i64 o, AV.int IntKind.i64 k, AV.int IntKind.i64 n,
                                                  AV.str s]],
                                            frz x, frz y])
                                        none fun (o_5 : Tri) =>
                                        branch (AV.bool (triOk o_5))
                                          (branch (AV.bool !refusesF o_5.fst.list o_5.snd.fst.list o_5.snd.snd.list)
                                            (onSome
                                              (dTri
                                                [AV.sl 5 true
                                                    [[AV.str c, AV.int IntKind.i64 o, AV.int IntKind.i64 k,
                                                        AV.int IntKind.i64 n, AV.str s]],
                                                  frz x, frz y])
                                              none fun (o_6 : Tri) =>
                                              branch (AV.bool (triOk o_6))
                                                (branch
                                                  (AV.bool
                                                    (holdsF o_6.fst.list o_6.snd.fst.list o_6.snd.snd.list ==
                                                      (truF o_2.fst o_2.snd.fst.list o_2.snd.snd.list == 1)))
                                                  (onSome
                                                    (dTri
                                                      [AV.sl 5 true
                                                          [[AV.str c, AV.int IntKind.i64 o, AV.int IntKind.i64 k,
                                                              AV.int IntKind.i64 n, AV.str s]],
                                                        frz x, frz y])
                                                    none fun (o : Tri) =>
                                                    branch (AV.bool (triOk o))
                                                      (some
                                                        (Fin.ret
                                                            (AV.bool
                                                              (refusesF o.fst.list o.snd.fst.list o.snd.snd.list ==
                                                                (truF o_2.fst o_2.snd.fst.list o_2.snd.snd.list == 0))),
                                                          St.mk
                                                            [Ob.cells
                                                                [AV.str c, AV.int IntKind.i64 5, AV.int IntKind.i64 k,
                                                                  AV.int IntKind.i64 n, AV.str s]]
                                                            []))
                                                      none)
                                                  (some
                                                    (Fin.ret (AV.bool false),
                                                      St.mk
                                                        [Ob.cells
                                                            [AV.str c, AV.int IntKind.i64 5, AV.int IntKind.i64 k,
                                                              AV.int IntKind.i64 n, AV.str s]]
                                                        [])))
                                                none)
                                            (some
                                              (Fin.ret (AV.bool false),
                                                St.mk
                                                  [Ob.cells
                                                      [AV.str c, AV.int IntKind.i64 5, AV.int IntKind.i64 k,
                                                        AV.int IntKind.i64 n, AV.str s]]
                                                  [])))
                                          none)
                                      (onSome
                                        (dTri
                                          [AV.sl 5 true
                                              [[AV.str c, AV.int IntKind.i64 o, AV.int IntKind.i64 k, AV.int IntKind.i64 n,
                                                  AV.str s]],
                                            frz x, frz y])
                                        none fun (o_5 : Tri) =>
                                        branch (AV.bool (triOk o_5))
                                          (branch
                                            (AV.bool
                                              (holdsF o_5.fst.list o_5.snd.fst.list o_5.snd.snd.list ==
                                                (truF o_2.fst o_2.snd.fst.list o_2.snd.snd.list == 1)))
                                            (onSome
                                              (dTri
                                                [AV.sl 5 true
                                                    [[AV.str c, AV.int IntKind.i64 o, AV.int IntKind.i64 k,
                                                        AV.int IntKind.i64 n, AV.str s]],
                                                  frz x, frz y])
                                              none fun (o : Tri) =>
                                              branch (AV.bool (triOk o))
                                                (some
                                                  (Fin.ret
                                                      (AV.bool
                                                        (refusesF o.fst.list o.snd.fst.list o.snd.snd.list ==
                                                          (truF o_2.fst o_2.snd.fst.list o_2.snd.snd.list == 0))),
                                                    St.mk
                                                      [Ob.cells
                                                          [AV.str c, AV.int IntKind.i64 5, AV.int IntKind.i64 k,
                                                            AV.int IntKind.i64 n, AV.str s]]
                                                      []))
                                                none)
                                            (some
                                              (Fin.ret (AV.bool false),
                                                St.mk
                                                  [Ob.cells
                                                      [AV.str c, AV.int IntKind.i64 5, AV.int IntKind.i64 k,
                                                        AV.int IntKind.i64 n, AV.str s]]
                                                  [])))
                                          none))
                                    none)))
                            (branch (AV.bool (5 != o))
                              (branch (AV.bool (decide (truF o_2.fst o_2.snd.fst.list o_2.snd.snd.list ≥ 0)))
                                (branch
                                  (AV.bool
                                    (truF o_2.fst o_2.snd.fst.list o_2.snd.snd.list ==
                                      truF o_3.fst o_3.snd.fst.list o_3.snd.snd.list))
                                  (some
                                    (Fin.ret (AV.bool false),
                                      St.mk
                                        [Ob.cells
                                            [AV.str c, AV.int IntKind.i64 5, AV.int IntKind.i64 k, AV.int IntKind.i64 n,
                                              AV.str s]]
                                        []))
                                  (onSome
                                    (dTri
                                      [AV.sl 5 true
                                          [[AV.str c, AV.int IntKind.i64 o, AV.int IntKind.i64 k, AV.int IntKind.i64 n,
                                              AV.str s]],
                                        frz x, frz y])
                                    none fun (o_4 : Tri) =>
                                    branch (AV.bool (triOk o_4))
                                      (branch (AV.bool (holdsF o_4.fst.list o_4.snd.fst.list o_4.snd.snd.list))
                                        (onSome
                                          (dTri
                                            [AV.sl 5 true
                                                [[AV.str c, AV.int IntKind.i64 o, AV.int IntKind.i64 k,
                                                    AV.int IntKind.i64 n, AV.str s]],
                                              frz x, frz y])
                                          none fun (o_5 : Tri) =>
                                          branch (AV.bool (triOk o_5))
                                            (branch (AV.bool !refusesF o_5.fst.list o_5.snd.fst.list o_5.snd.snd.list)
                                              (onSome
                                                (dTri
                                                  [AV.sl 5 true
                                                      [[AV.str c, AV.int IntKind.i64 o, AV.int IntKind.i64 k,
                                                          AV.int IntKind.i64 n, AV.str s]],
                                                    frz x, frz y])
                                                none fun (o_6 : Tri) =>
                                                branch (AV.bool (triOk o_6))
                                                  (branch
                                                    (AV.bool
                                                      (holdsF o_6.fst.list o_6.snd.fst.list o_6.snd.snd.list ==
                                                        (truF o_2.fst o_2.snd.fst.list o_2.snd.snd.list == 1)))
                                                    (onSome
                                                      (dTri
                                                        [AV.sl 5 true
                                                            [[AV.str c, AV.int IntKind.i64 o, AV.int IntKind.i64 k,
                                                                AV.int IntKind.i64 n, AV.str s]],
                                                          frz x, frz y])
                                                      none fun (o : Tri) =>
                                                      branch (AV.bool (triOk o))
                                                        (some
                                                          (Fin.ret
                                                              (AV.bool
                                                                (refusesF o.fst.list o.snd.fst.list o.snd.snd.list ==
                                                                  (truF o_2.fst o_2.snd.fst.list o_2.snd.snd.list == 0))),
                                                            St.mk
                                                              [Ob.cells
                                                                  [AV.str c, AV.int IntKind.i64 5, AV.int IntKind.i64 k,
                                                                    AV.int IntKind.i64 n, AV.str s]]
                                                              []))
                                                        none)
                                                    (some
                                                      (Fin.ret (AV.bool false),
                                                        St.mk
                                                          [Ob.cells
                                                              [AV.str c, AV.int IntKind.i64 5, AV.int IntKind.i64 k,
                                                                AV.int IntKind.i64 n, AV.str s]]
                                                          [])))
                                                  none)
                                              (some
                                                (Fin.ret (AV.bool false),
                                                  St.mk
                                                    [Ob.cells
                                                        [AV.str c, AV.int IntKind.i64 5, AV.int IntKind.i64 k,
                                                          AV.int IntKind.i64 n, AV.str s]]
                                                    [])))
                                            none)
                                        (onSome
                                          (dTri
                                            [AV.sl 5 true
                                                [[AV.str c, AV.int IntKind.i64 o, AV.int IntKind.i64 k,
                                                    AV.int IntKind.i64 n, AV.str s]],
                                              frz x, frz y])
                                          none fun (o_5 : Tri) =>
                                          branch (AV.bool (triOk o_5))
                                            (branch
                                              (AV.bool
                                                (holdsF o_5.fst.list o_5.snd.fst.list o_5.snd.snd.list ==
                                                  (truF o_2.fst o_2.snd.fst.list o_2.snd.snd.list == 1)))
                                              (onSome
                                                (dTri
                                                  [AV.sl 5 true
                                                      [[AV.str c, AV.int IntKind.i64 o, AV.int IntKind.i64 k,
                                                          AV.int IntKind.i64 n, AV.str s]],
                                                    frz x, frz y])
                                                none fun (o : Tri) =>
                                                branch (AV.bool (triOk o))
                                                  (some
                                                    (Fin.ret
                                                        (AV.bool
                                                          (refusesF o.fst.list o.snd.fst.list o.snd.snd.list ==
                                                            (truF o_2.fst o_2.snd.fst.list o_2.snd.snd.list == 0))),
                                                      St.mk
                                                        [Ob.cells
                                                            [AV.str c, AV.int IntKind.i64 5, AV.int IntKind.i64 k,
                                                              AV.int IntKind.i64 n, AV.str s]]
                                                        []))
                                                  none)
                                              (some
                                                (Fin.ret (AV.bool false),
                                                  St.mk
                                                    [Ob.cells
                                                        [AV.str c, AV.int IntKind.i64 5, AV.int IntKind.i64 k,
                                                          AV.int IntKind.i64 n, AV.str s]]
                                                    [])))
                                            none))
                                      none))
                                (onSome
                                  (dTri
                                    [AV.sl 5 true
                                        [[AV.str c, AV.int IntKind.i64 o, AV.int IntKind.i64 k, AV.int IntKind.i64 n,
                                            AV.str s]],
                                      frz x, frz y])
                                  none fun (o_4 : Tri) =>
                                  branch (AV.bool (triOk o_4))
                                    (branch (AV.bool (holdsF o_4.fst.list o_4.snd.fst.list o_4.snd.snd.list))
                                      (onSome
                                        (dTri
                                          [AV.sl 5 true
                                              [[AV.str c, AV.int IntKind.i64 o, AV.int IntKind.i64 k, AV.int IntKind.i64 n,
                                                  AV.str s]],
                                            frz x, frz y])
                                        none fun (o_5 : Tri) =>
                                        branch (AV.bool (triOk o_5))
                                          (branch (AV.bool !refusesF o_5.fst.list o_5.snd.fst.list o_5.snd.snd.list)
                                            (onSome
                                              (dTri
                                                [AV.sl 5 true
                                                    [[AV.str c, AV.int IntKind.i64 o, AV.int IntKind.i64 k,
                                                        AV.int IntKind.i64 n, AV.str s]],
                                                  frz x, frz y])
                                              none fun (o_6 : Tri) =>
                                              branch (AV.bool (triOk o_6))
                                                (branch
                                                  (AV.bool
                                                    (holdsF o_6.fst.list o_6.snd.fst.list o_6.snd.snd.list ==
                                                      (truF o_2.fst o_2.snd.fst.list o_2.snd.snd.list == 1)))
                                                  (onSome
                                                    (dTri
                                                      [AV.sl 5 true
                                                          [[AV.str c, AV.int IntKind.i64 o, AV.int IntKind.i64 k,
                                                              AV.int IntKind.i64 n, AV.str s]],
                                                        frz x, frz y])
                                                    none fun (o : Tri) =>
                                                    branch (AV.bool (triOk o))
                                                      (some
                                                        (Fin.ret
                                                            (AV.bool
                                                              (refusesF o.fst.list o.snd.fst.list o.snd.snd.list ==
                                                                (truF o_2.fst o_2.snd.fst.list o_2.snd.snd.list == 0))),
                                                          St.mk
                                                            [Ob.cells
                                                                [AV.str c, AV.int IntKind.i64 5, AV.int IntKind.i64 k,
                                                                  AV.int IntKind.i64 n, AV.str s]]
                                                            []))
                                                      none)
                                                  (some
                                                    (Fin.ret (AV.bool false),
                                                      St.mk
                                                        [Ob.cells
                                                            [AV.str c, AV.int IntKind.i64 5, AV.int IntKind.i64 k,
                                                              AV.int IntKind.i64 n, AV.str s]]
                                                        [])))
                                                none)
                                            (some
                                              (Fin.ret (AV.bool false),
                                                St.mk
                                                  [Ob.cells
                                                      [AV.str c, AV.int IntKind.i64 5, AV.int IntKind.i64 k,
                                                        AV.int IntKind.i64 n, AV.str s]]
                                                  [])))
                                          none)
                                      (onSome
                                        (dTri
                                          [AV.sl 5 true
                                              [[AV.str c, AV.int IntKind.i64 o, AV.int IntKind.i64 k, AV.int IntKind.i64 n,
                                                  AV.str s]],
                                            frz x, frz y])
                                        none fun (o_5 : Tri) =>
                                        branch (AV.bool (triOk o_5))
                                          (branch
                                            (AV.bool
                                              (holdsF o_5.fst.list o_5.snd.fst.list o_5.snd.snd.list ==
                                                (truF o_2.fst o_2.snd.fst.list o_2.snd.snd.list == 1)))
                                            (onSome
                                              (dTri
                                                [AV.sl 5 true
                                                    [[AV.str c, AV.int IntKind.i64 o, AV.int IntKind.i64 k,
                                                        AV.int IntKind.i64 n, AV.str s]],
                                                  frz x, frz y])
                                              none fun (o : Tri) =>
                                              branch (AV.bool (triOk o))
                                                (some
                                                  (Fin.ret
                                                      (AV.bool
                                                        (refusesF o.fst.list o.snd.fst.list o.snd.snd.list ==
                                                          (truF o_2.fst o_2.snd.fst.list o_2.snd.snd.list == 0))),
                                                    St.mk
                                                      [Ob.cells
                                                          [AV.str c, AV.int IntKind.i64 5, AV.int IntKind.i64 k,
                                                            AV.int IntKind.i64 n, AV.str s]]
                                                      []))
                                                none)
                                            (some
                                              (Fin.ret (AV.bool false),
                                                St.mk
                                                  [Ob.cells
                                                      [AV.str c, AV.int IntKind.i64 5, AV.int IntKind.i64 k,
                                                        AV.int IntKind.i64 n, AV.str s]]
                                                  [])))
                                          none))
                                    none))
                              (onSome
                                (dTri
                                  [AV.sl 5 true
                                      [[AV.str c, AV.int IntKind.i64 o, AV.int IntKind.i64 k, AV.int IntKind.i64 n,
                                          AV.str s]],
                                    frz x, frz y])
                                none fun (o_4 : Tri) =>
                                branch (AV.bool (triOk o_4))
                                  (branch (AV.bool (holdsF o_4.fst.list o_4.snd.fst.list o_4.snd.snd.list))
                                    (onSome
                                      (dTri
                                        [AV.sl 5 true
                                            [[AV.str c, AV.int IntKind.i64 o, AV.int IntKind.i64 k, AV.int IntKind.i64 n,
                                                AV.str s]],
                                          frz x, frz y])
                                      none fun (o_5 : Tri) =>
                                      branch (AV.bool (triOk o_5))
                                        (branch (AV.bool !refusesF o_5.fst.list o_5.snd.fst.list o_5.snd.snd.list)
                                          (onSome
                                            (dTri
                                              [AV.sl 5 true
                                                  [[AV.str c, AV.int IntKind.i64 o, AV.int IntKind.i64 k,
                                                      AV.int IntKind.i64 n, AV.str s]],
                                                frz x, frz y])
                                            none fun (o_6 : Tri) =>
                                            branch (AV.bool (triOk o_6))
                                              (branch
                                                (AV.bool
                                                  (holdsF o_6.fst.list o_6.snd.fst.list o_6.snd.snd.list ==
                                                    (truF o_2.fst o_2.snd.fst.list o_2.snd.snd.list == 1)))
                                                (onSome
                                                  (dTri
                                                    [AV.sl 5 true
                                                        [[AV.str c, AV.int IntKind.i64 o, AV.int IntKind.i64 k,
                                                            AV.int IntKind.i64 n, AV.str s]],
                                                      frz x, frz y])
                                                  none fun (o : Tri) =>
                                                  branch (AV.bool (triOk o))
                                                    (some
                                                      (Fin.ret
                                                          (AV.bool
                                                            (refusesF o.fst.list o.snd.fst.list o.snd.snd.list ==
                                                              (truF o_2.fst o_2.snd.fst.list o_2.snd.snd.list == 0))),
                                                        St.mk
                                                          [Ob.cells
                                                              [AV.str c, AV.int IntKind.i64 5, AV.int IntKind.i64 k,
                                                                AV.int IntKind.i64 n, AV.str s]]
                                                          []))
                                                    none)
                                                (some
                                                  (Fin.ret (AV.bool false),
                                                    St.mk
                                                      [Ob.cells
                                                          [AV.str c, AV.int IntKind.i64 5, AV.int IntKind.i64 k,
                                                            AV.int IntKind.i64 n, AV.str s]]
                                                      [])))
                                              none)
                                          (some
                                            (Fin.ret (AV.bool false),
                                              St.mk
                                                [Ob.cells
                                                    [AV.str c, AV.int IntKind.i64 5, AV.int IntKind.i64 k,
                                                      AV.int IntKind.i64 n, AV.str s]]
                                                [])))
                                        none)
                                    (onSome
                                      (dTri
                                        [AV.sl 5 true
                                            [[AV.str c, AV.int IntKind.i64 o, AV.int IntKind.i64 k, AV.int IntKind.i64 n,
                                                AV.str s]],
                                          frz x, frz y])
                                      none fun (o_5 : Tri) =>
                                      branch (AV.bool (triOk o_5))
                                        (branch
                                          (AV.bool
                                            (holdsF o_5.fst.list o_5.snd.fst.list o_5.snd.snd.list ==
                                              (truF o_2.fst o_2.snd.fst.list o_2.snd.snd.list == 1)))
                                          (onSome
                                            (dTri
                                              [AV.sl 5 true
                                                  [[AV.str c, AV.int IntKind.i64 o, AV.int IntKind.i64 k,
                                                      AV.int IntKind.i64 n, AV.str s]],
                                                frz x, frz y])
                                            none fun (o : Tri) =>
                                            branch (AV.bool (triOk o))
                                              (some
                                                (Fin.ret
                                                    (AV.bool
                                                      (refusesF o.fst.list o.snd.fst.list o.snd.snd.list ==
                                                        (truF o_2.fst o_2.snd.fst.list o_2.snd.snd.list == 0))),
                                                  St.mk
                                                    [Ob.cells
                                                        [AV.str c, AV.int IntKind.i64 5, AV.int IntKind.i64 k,
                                                          AV.int IntKind.i64 n, AV.str s]]
                                                    []))
                                              none)
                                          (some
                                            (Fin.ret (AV.bool false),
                                              St.mk
                                                [Ob.cells
                                                    [AV.str c, AV.int IntKind.i64 5, AV.int IntKind.i64 k,
                                                      AV.int IntKind.i64 n, AV.str s]]
                                                [])))
                                        none))
                                  none)))
                          none)
                      none)
                  (onSome
                    (dTr
                      [AV.agg [AV.str c, AV.int IntKind.i64 o, AV.int IntKind.i64 k, AV.int IntKind.i64 n, AV.str s], x, y])
                    none fun (o_2 : Cd × Br × Br) =>
                    branch (AV.bool (okC o_2.snd.fst && okV o_2.snd.snd))
                      (onSome
                        (dTr
                          [AV.agg [AV.str c, AV.int IntKind.i64 o, AV.int IntKind.i64 k, AV.int IntKind.i64 n, AV.str s], x,
                            y])
                        none fun (o_3 : Cd × Br × Br) =>
                        branch (AV.bool (okC o_3.snd.fst && okV o_3.snd.snd))
                          (branch (AV.bool (o != o))
                            (branch
                              (AV.bool
                                !decide (truF o_2.fst o_2.snd.fst.list o_2.snd.snd.list < 0) ==
                                    decide (truF o_3.fst o_3.snd.fst.list o_3.snd.snd.list < 0))
                              (some
                                (Fin.ret (AV.bool false),
                                  St.mk
                                    [Ob.cells
                                        [AV.str c, AV.int IntKind.i64 o, AV.int IntKind.i64 k, AV.int IntKind.i64 n,
                                          AV.str s]]
                                    []))
                              (branch (AV.bool (o != o))
                                (branch (AV.bool (decide (truF o_2.fst o_2.snd.fst.list o_2.snd.snd.list ≥ 0)))
                                  (branch
                                    (AV.bool
                                      (truF o_2.fst o_2.snd.fst.list o_2.snd.snd.list ==
                                        truF o_3.fst o_3.snd.fst.list o_3.snd.snd.list))
                                    (some
                                      (Fin.ret (AV.bool false),
                                        St.mk
                                          [Ob.cells
                                              [AV.str c, AV.int IntKind.i64 o, AV.int IntKind.i64 k, AV.int IntKind.i64 n,
                                                AV.str s]]
                                          []))
                                    (onSome
                                      (dTri
                                        [AV.sl 5 true
                                            [[AV.str c, AV.int IntKind.i64 o, AV.int IntKind.i64 k, AV.int IntKind.i64 n,
                                                AV.str s]],
                                          frz x, frz y])
                                      none fun (o_4 : Tri) =>
                                      branch (AV.bool (triOk o_4))
                                        (branch (AV.bool (holdsF o_4.fst.list o_4.snd.fst.list o_4.snd.snd.list))
                                          (onSome
                                            (dTri
                                              [AV.sl 5 true
                                                  [[AV.str c, AV.int IntKind.i64 o, AV.int IntKind.i64 k,
                                                      AV.int IntKind.i64 n, AV.str s]],
                                                frz x, frz y])
                                            none fun (o_5 : Tri) =>
                                            branch (AV.bool (triOk o_5))
                                              (branch (AV.bool !refusesF o_5.fst.list o_5.snd.fst.list o_5.snd.snd.list)
                                                (onSome
                                                  (dTri
                                                    [AV.sl 5 true
                                                        [[AV.str c, AV.int IntKind.i64 o, AV.int IntKind.i64 k,
                                                            AV.int IntKind.i64 n, AV.str s]],
                                                      frz x, frz y])
                                                  none fun (o_6 : Tri) =>
                                                  branch (AV.bool (triOk o_6))
                                                    (branch
                                                      (AV.bool
                                                        (holdsF o_6.fst.list o_6.snd.fst.list o_6.snd.snd.list ==
                                                          (truF o_2.fst o_2.snd.fst.list o_2.snd.snd.list == 1)))
                                                      (onSome
                                                        (dTri
                                                          [AV.sl 5 true
                                                              [[AV.str c, AV.int IntKind.i64 o, AV.int IntKind.i64 k,
                                                                  AV.int IntKind.i64 n, AV.str s]],
                                                            frz x, frz y])
                                                        none fun (o_7 : Tri) =>
                                                        branch (AV.bool (triOk o_7))
                                                          (some
                                                            (Fin.ret
                                                                (AV.bool
                                                                  (refusesF o_7.fst.list o_7.snd.fst.list
                                                                      o_7.snd.snd.list ==
                                                                    (truF o_2.fst o_2.snd.fst.list o_2.snd.snd.list == 0))),
                                                              St.mk
                                                                [Ob.cells
                                                                    [AV.str c, AV.int IntKind.i64 o, AV.int IntKind.i64 k,
                                                                      AV.int IntKind.i64 n, AV.str s]]
                                                                []))
                                                          none)
                                                      (some
                                                        (Fin.ret (AV.bool false),
                                                          St.mk
                                                            [Ob.cells
                                                                [AV.str c, AV.int IntKind.i64 o, AV.int IntKind.i64 k,
                                                                  AV.int IntKind.i64 n, AV.str s]]
                                                            [])))
                                                    none)
                                                (some
                                                  (Fin.ret (AV.bool false),
                                                    St.mk
                                                      [Ob.cells
                                                          [AV.str c, AV.int IntKind.i64 o, AV.int IntKind.i64 k,
                                                            AV.int IntKind.i64 n, AV.str s]]
                                                      [])))
                                              none)
                                          (onSome
                                            (dTri
                                              [AV.sl 5 true
                                                  [[AV.str c, AV.int IntKind.i64 o, AV.int IntKind.i64 k,
                                                      AV.int IntKind.i64 n, AV.str s]],
                                                frz x, frz y])
                                            none fun (o_5 : Tri) =>
                                            branch (AV.bool (triOk o_5))
                                              (branch
                                                (AV.bool
                                                  (holdsF o_5.fst.list o_5.snd.fst.list o_5.snd.snd.list ==
                                                    (truF o_2.fst o_2.snd.fst.list o_2.snd.snd.list == 1)))
                                                (onSome
                                                  (dTri
                                                    [AV.sl 5 true
                                                        [[AV.str c, AV.int IntKind.i64 o, AV.int IntKind.i64 k,
                                                            AV.int IntKind.i64 n, AV.str s]],
                                                      frz x, frz y])
                                                  none fun (o_6 : Tri) =>
                                                  branch (AV.bool (triOk o_6))
                                                    (some
                                                      (Fin.ret
                                                          (AV.bool
                                                            (refusesF o_6.fst.list o_6.snd.fst.list o_6.snd.snd.list ==
                                                              (truF o_2.fst o_2.snd.fst.list o_2.snd.snd.list == 0))),
                                                        St.mk
                                                          [Ob.cells
                                                              [AV.str c, AV.int IntKind.i64 o, AV.int IntKind.i64 k,
                                                                AV.int IntKind.i64 n, AV.str s]]
                                                          []))
                                                    none)
                                                (some
                                                  (Fin.ret (AV.bool false),
                                                    St.mk
                                                      [Ob.cells
                                                          [AV.str c, AV.int IntKind.i64 o, AV.int IntKind.i64 k,
                                                            AV.int IntKind.i64 n, AV.str s]]
                                                      [])))
                                              none))
                                        none))
                                  (onSome
                                    (dTri
                                      [AV.sl 5 true
                                          [[AV.str c, AV.int IntKind.i64 o, AV.int IntKind.i64 k, AV.int IntKind.i64 n,
                                              AV.str s]],
                                        frz x, frz y])
                                    none fun (o_4 : Tri) =>
                                    branch (AV.bool (triOk o_4))
                                      (branch (AV.bool (holdsF o_4.fst.list o_4.snd.fst.list o_4.snd.snd.list))
                                        (onSome
                                          (dTri
                                            [AV.sl 5 true
                                                [[AV.str c, AV.int IntKind.i64 o, AV.int IntKind.i64 k,
                                                    AV.int IntKind.i64 n, AV.str s]],
                                              frz x, frz y])
                                          none fun (o_5 : Tri) =>
                                          branch (AV.bool (triOk o_5))
                                            (branch (AV.bool !refusesF o_5.fst.list o_5.snd.fst.list o_5.snd.snd.list)
                                              (onSome
                                                (dTri
                                                  [AV.sl 5 true
                                                      [[AV.str c, AV.int IntKind.i64 o, AV.int IntKind.i64 k,
                                                          AV.int IntKind.i64 n, AV.str s]],
                                                    frz x, frz y])
                                                none fun (o_6 : Tri) =>
                                                branch (AV.bool (triOk o_6))
                                                  (branch
                                                    (AV.bool
                                                      (holdsF o_6.fst.list o_6.snd.fst.list o_6.snd.snd.list ==
                                                        (truF o_2.fst o_2.snd.fst.list o_2.snd.snd.list == 1)))
                                                    (onSome
                                                      (dTri
                                                        [AV.sl 5 true
                                                            [[AV.str c, AV.int IntKind.i64 o, AV.int IntKind.i64 k,
                                                                AV.int IntKind.i64 n, AV.str s]],
                                                          frz x, frz y])
                                                      none fun (o_7 : Tri) =>
                                                      branch (AV.bool (triOk o_7))
                                                        (some
                                                          (Fin.ret
                                                              (AV.bool
                                                                (refusesF o_7.fst.list o_7.snd.fst.list o_7.snd.snd.list ==
                                                                  (truF o_2.fst o_2.snd.fst.list o_2.snd.snd.list == 0))),
                                                            St.mk
                                                              [Ob.cells
                                                                  [AV.str c, AV.int IntKind.i64 o, AV.int IntKind.i64 k,
                                                                    AV.int IntKind.i64 n, AV.str s]]
                                                              []))
                                                        none)
                                                    (some
                                                      (Fin.ret (AV.bool false),
                                                        St.mk
                                                          [Ob.cells
                                                              [AV.str c, AV.int IntKind.i64 o, AV.int IntKind.i64 k,
                                                                AV.int IntKind.i64 n, AV.str s]]
                                                          [])))
                                                  none)
                                              (some
                                                (Fin.ret (AV.bool false),
                                                  St.mk
                                                    [Ob.cells
                                                        [AV.str c, AV.int IntKind.i64 o, AV.int IntKind.i64 k,
                                                          AV.int IntKind.i64 n, AV.str s]]
                                                    [])))
                                            none)
                                        (onSome
                                          (dTri
                                            [AV.sl 5 true
                                                [[AV.str c, AV.int IntKind.i64 o, AV.int IntKind.i64 k,
                                                    AV.int IntKind.i64 n, AV.str s]],
                                              frz x, frz y])
                                          none fun (o_5 : Tri) =>
                                          branch (AV.bool (triOk o_5))
                                            (branch
                                              (AV.bool
                                                (holdsF o_5.fst.list o_5.snd.fst.list o_5.snd.snd.list ==
                                                  (truF o_2.fst o_2.snd.fst.list o_2.snd.snd.list == 1)))
                                              (onSome
                                                (dTri
                                                  [AV.sl 5 true
                                                      [[AV.str c, AV.int IntKind.i64 o, AV.int IntKind.i64 k,
                                                          AV.int IntKind.i64 n, AV.str s]],
                                                    frz x, frz y])
                                                none fun (o_6 : Tri) =>
                                                branch (AV.bool (triOk o_6))
                                                  (some
                                                    (Fin.ret
                                                        (AV.bool
                                                          (refusesF o_6.fst.list o_6.snd.fst.list o_6.snd.snd.list ==
                                                            (truF o_2.fst o_2.snd.fst.list o_2.snd.snd.list == 0))),
                                                      St.mk
                                                        [Ob.cells
                                                            [AV.str c, AV.int IntKind.i64 o, AV.int IntKind.i64 k,
                                                              AV.int IntKind.i64 n, AV.str s]]
                                                        []))
                                                  none)
                                              (some
                                                (Fin.ret (AV.bool false),
                                                  St.mk
                                                    [Ob.cells
                                                        [AV.str c, AV.int IntKind.i64 o, AV.int IntKind.i64 k,
                                                          AV.int IntKind.i64 n, AV.str s]]
                                                    [])))
                                            none))
                                      none))
                                (onSome
                                  (dTri
                                    [AV.sl 5 true
                                        [[AV.str c, AV.int IntKind.i64 o, AV.int IntKind.i64 k, AV.int IntKind.i64 n,
                                            AV.str s]],
                                      frz x, frz y])
                                  none fun (o_4 : Tri) =>
                                  branch (AV.bool (triOk o_4))
                                    (branch (AV.bool (holdsF o_4.fst.list o_4.snd.fst.list o_4.snd.snd.list))
                                      (onSome
                                        (dTri
                                          [AV.sl 5 true
                                              [[AV.str c, AV.int IntKind.i64 o, AV.int IntKind.i64 k, AV.int IntKind.i64 n,
                                                  AV.str s]],
                                            frz x, frz y])
                                        none fun (o_5 : Tri) =>
                                        branch (AV.bool (triOk o_5))
                                          (branch (AV.bool !refusesF o_5.fst.list o_5.snd.fst.list o_5.snd.snd.list)
                                            (onSome
                                              (dTri
                                                [AV.sl 5 true
                                                    [[AV.str c, AV.int IntKind.i64 o, AV.int IntKind.i64 k,
                                                        AV.int IntKind.i64 n, AV.str s]],
                                                  frz x, frz y])
                                              none fun (o_6 : Tri) =>
                                              branch (AV.bool (triOk o_6))
                                                (branch
                                                  (AV.bool
                                                    (holdsF o_6.fst.list o_6.snd.fst.list o_6.snd.snd.list ==
                                                      (truF o_2.fst o_2.snd.fst.list o_2.snd.snd.list == 1)))
                                                  (onSome
                                                    (dTri
                                                      [AV.sl 5 true
                                                          [[AV.str c, AV.int IntKind.i64 o, AV.int IntKind.i64 k,
                                                              AV.int IntKind.i64 n, AV.str s]],
                                                        frz x, frz y])
                                                    none fun (o_7 : Tri) =>
                                                    branch (AV.bool (triOk o_7))
                                                      (some
                                                        (Fin.ret
                                                            (AV.bool
                                                              (refusesF o_7.fst.list o_7.snd.fst.list o_7.snd.snd.list ==
                                                                (truF o_2.fst o_2.snd.fst.list o_2.snd.snd.list == 0))),
                                                          St.mk
                                                            [Ob.cells
                                                                [AV.str c, AV.int IntKind.i64 o, AV.int IntKind.i64 k,
                                                                  AV.int IntKind.i64 n, AV.str s]]
                                                            []))
                                                      none)
                                                  (some
                                                    (Fin.ret (AV.bool false),
                                                      St.mk
                                                        [Ob.cells
                                                            [AV.str c, AV.int IntKind.i64 o, AV.int IntKind.i64 k,
                                                              AV.int IntKind.i64 n, AV.str s]]
                                                        [])))
                                                none)
                                            (some
                                              (Fin.ret (AV.bool false),
                                                St.mk
                                                  [Ob.cells
                                                      [AV.str c, AV.int IntKind.i64 o, AV.int IntKind.i64 k,
                                                        AV.int IntKind.i64 n, AV.str s]]
                                                  [])))
                                          none)
                                      (onSome
                                        (dTri
                                          [AV.sl 5 true
                                              [[AV.str c, AV.int IntKind.i64 o, AV.int IntKind.i64 k, AV.int IntKind.i64 n,
                                                  AV.str s]],
                                            frz x, frz y])
                                        none fun (o_5 : Tri) =>
                                        branch (AV.bool (triOk o_5))
                                          (branch
                                            (AV.bool
                                              (holdsF o_5.fst.list o_5.snd.fst.list o_5.snd.snd.list ==
                                                (truF o_2.fst o_2.snd.fst.list o_2.snd.snd.list == 1)))
                                            (onSome
                                              (dTri
                                                [AV.sl 5 true
                                                    [[AV.str c, AV.int IntKind.i64 o, AV.int IntKind.i64 k,
                                                        AV.int IntKind.i64 n, AV.str s]],
                                                  frz x, frz y])
                                              none fun (o_6 : Tri) =>
                                              branch (AV.bool (triOk o_6))
                                                (some
                                                  (Fin.ret
                                                      (AV.bool
                                                        (refusesF o_6.fst.list o_6.snd.fst.list o_6.snd.snd.list ==
                                                          (truF o_2.fst o_2.snd.fst.list o_2.snd.snd.list == 0))),
                                                    St.mk
                                                      [Ob.cells
                                                          [AV.str c, AV.int IntKind.i64 o, AV.int IntKind.i64 k,
                                                            AV.int IntKind.i64 n, AV.str s]]
                                                      []))
                                                none)
                                            (some
                                              (Fin.ret (AV.bool false),
                                                St.mk
                                                  [Ob.cells
                                                      [AV.str c, AV.int IntKind.i64 o, AV.int IntKind.i64 k,
                                                        AV.int IntKind.i64 n, AV.str s]]
                                                  [])))
                                          none))
                                    none)))
                            (branch (AV.bool (o != o))
                              (branch (AV.bool (decide (truF o_2.fst o_2.snd.fst.list o_2.snd.snd.list ≥ 0)))
                                (branch
                                  (AV.bool
                                    (truF o_2.fst o_2.snd.fst.list o_2.snd.snd.list ==
                                      truF o_3.fst o_3.snd.fst.list o_3.snd.snd.list))
                                  (some
                                    (Fin.ret (AV.bool false),
                                      St.mk
                                        [Ob.cells
                                            [AV.str c, AV.int IntKind.i64 o, AV.int IntKind.i64 k, AV.int IntKind.i64 n,
                                              AV.str s]]
                                        []))
                                  (onSome
                                    (dTri
                                      [AV.sl 5 true
                                          [[AV.str c, AV.int IntKind.i64 o, AV.int IntKind.i64 k, AV.int IntKind.i64 n,
                                              AV.str s]],
                                        frz x, frz y])
                                    none fun (o_4 : Tri) =>
                                    branch (AV.bool (triOk o_4))
                                      (branch (AV.bool (holdsF o_4.fst.list o_4.snd.fst.list o_4.snd.snd.list))
                                        (onSome
                                          (dTri
                                            [AV.sl 5 true
                                                [[AV.str c, AV.int IntKind.i64 o, AV.int IntKind.i64 k,
                                                    AV.int IntKind.i64 n, AV.str s]],
                                              frz x, frz y])
                                          none fun (o_5 : Tri) =>
                                          branch (AV.bool (triOk o_5))
                                            (branch (AV.bool !refusesF o_5.fst.list o_5.snd.fst.list o_5.snd.snd.list)
                                              (onSome
                                                (dTri
                                                  [AV.sl 5 true
                                                      [[AV.str c, AV.int IntKind.i64 o, AV.int IntKind.i64 k,
                                                          AV.int IntKind.i64 n, AV.str s]],
                                                    frz x, frz y])
                                                none fun (o_6 : Tri) =>
                                                branch (AV.bool (triOk o_6))
                                                  (branch
                                                    (AV.bool
                                                      (holdsF o_6.fst.list o_6.snd.fst.list o_6.snd.snd.list ==
                                                        (truF o_2.fst o_2.snd.fst.list o_2.snd.snd.list == 1)))
                                                    (onSome
                                                      (dTri
                                                        [AV.sl 5 true
                                                            [[AV.str c, AV.int IntKind.i64 o, AV.int IntKind.i64 k,
                                                                AV.int IntKind.i64 n, AV.str s]],
                                                          frz x, frz y])
                                                      none fun (o_7 : Tri) =>
                                                      branch (AV.bool (triOk o_7))
                                                        (some
                                                          (Fin.ret
                                                              (AV.bool
                                                                (refusesF o_7.fst.list o_7.snd.fst.list o_7.snd.snd.list ==
                                                                  (truF o_2.fst o_2.snd.fst.list o_2.snd.snd.list == 0))),
                                                            St.mk
                                                              [Ob.cells
                                                                  [AV.str c, AV.int IntKind.i64 o, AV.int IntKind.i64 k,
                                                                    AV.int IntKind.i64 n, AV.str s]]
                                                              []))
                                                        none)
                                                    (some
                                                      (Fin.ret (AV.bool false),
                                                        St.mk
                                                          [Ob.cells
                                                              [AV.str c, AV.int IntKind.i64 o, AV.int IntKind.i64 k,
                                                                AV.int IntKind.i64 n, AV.str s]]
                                                          [])))
                                                  none)
                                              (some
                                                (Fin.ret (AV.bool false),
                                                  St.mk
                                                    [Ob.cells
                                                        [AV.str c, AV.int IntKind.i64 o, AV.int IntKind.i64 k,
                                                          AV.int IntKind.i64 n, AV.str s]]
                                                    [])))
                                            none)
                                        (onSome
                                          (dTri
                                            [AV.sl 5 true
                                                [[AV.str c, AV.int IntKind.i64 o, AV.int IntKind.i64 k,
                                                    AV.int IntKind.i64 n, AV.str s]],
                                              frz x, frz y])
                                          none fun (o_5 : Tri) =>
                                          branch (AV.bool (triOk o_5))
                                            (branch
                                              (AV.bool
                                                (holdsF o_5.fst.list o_5.snd.fst.list o_5.snd.snd.list ==
                                                  (truF o_2.fst o_2.snd.fst.list o_2.snd.snd.list == 1)))
                                              (onSome
                                                (dTri
                                                  [AV.sl 5 true
                                                      [[AV.str c, AV.int IntKind.i64 o, AV.int IntKind.i64 k,
                                                          AV.int IntKind.i64 n, AV.str s]],
                                                    frz x, frz y])
                                                none fun (o_6 : Tri) =>
                                                branch (AV.bool (triOk o_6))
                                                  (some
                                                    (Fin.ret
                                                        (AV.bool
                                                          (refusesF o_6.fst.list o_6.snd.fst.list o_6.snd.snd.list ==
                                                            (truF o_2.fst o_2.snd.fst.list o_2.snd.snd.list == 0))),
                                                      St.mk
                                                        [Ob.cells
                                                            [AV.str c, AV.int IntKind.i64 o, AV.int IntKind.i64 k,
                                                              AV.int IntKind.i64 n, AV.str s]]
                                                        []))
                                                  none)
                                              (some
                                                (Fin.ret (AV.bool false),
                                                  St.mk
                                                    [Ob.cells
                                                        [AV.str c, AV.int IntKind.i64 o, AV.int IntKind.i64 k,
                                                          AV.int IntKind.i64 n, AV.str s]]
                                                    [])))
                                            none))
                                      none))
                                (onSome
                                  (dTri
                                    [AV.sl 5 true
                                        [[AV.str c, AV.int IntKind.i64 o, AV.int IntKind.i64 k, AV.int IntKind.i64 n,
                                            AV.str s]],
                                      frz x, frz y])
                                  none fun (o_4 : Tri) =>
                                  branch (AV.bool (triOk o_4))
                                    (branch (AV.bool (holdsF o_4.fst.list o_4.snd.fst.list o_4.snd.snd.list))
                                      (onSome
                                        (dTri
                                          [AV.sl 5 true
                                              [[AV.str c, AV.int IntKind.i64 o, AV.int IntKind.i64 k, AV.int IntKind.i64 n,
                                                  AV.str s]],
                                            frz x, frz y])
                                        none fun (o_5 : Tri) =>
                                        branch (AV.bool (triOk o_5))
                                          (branch (AV.bool !refusesF o_5.fst.list o_5.snd.fst.list o_5.snd.snd.list)
                                            (onSome
                                              (dTri
                                                [AV.sl 5 true
                                                    [[AV.str c, AV.int IntKind.i64 o, AV.int IntKind.i64 k,
                                                        AV.int IntKind.i64 n, AV.str s]],
                                                  frz x, frz y])
                                              none fun (o_6 : Tri) =>
                                              branch (AV.bool (triOk o_6))
                                                (branch
                                                  (AV.bool
                                                    (holdsF o_6.fst.list o_6.snd.fst.list o_6.snd.snd.list ==
                                                      (truF o_2.fst o_2.snd.fst.list o_2.snd.snd.list == 1)))
                                                  (onSome
                                                    (dTri
                                                      [AV.sl 5 true
                                                          [[AV.str c, AV.int IntKind.i64 o, AV.int IntKind.i64 k,
                                                              AV.int IntKind.i64 n, AV.str s]],
                                                        frz x, frz y])
                                                    none fun (o_7 : Tri) =>
                                                    branch (AV.bool (triOk o_7))
                                                      (some
                                                        (Fin.ret
                                                            (AV.bool
                                                              (refusesF o_7.fst.list o_7.snd.fst.list o_7.snd.snd.list ==
                                                                (truF o_2.fst o_2.snd.fst.list o_2.snd.snd.list == 0))),
                                                          St.mk
                                                            [Ob.cells
                                                                [AV.str c, AV.int IntKind.i64 o, AV.int IntKind.i64 k,
                                                                  AV.int IntKind.i64 n, AV.str s]]
                                                            []))
                                                      none)
                                                  (some
                                                    (Fin.ret (AV.bool false),
                                                      St.mk
                                                        [Ob.cells
                                                            [AV.str c, AV.int IntKind.i64 o, AV.int IntKind.i64 k,
                                                              AV.int IntKind.i64 n, AV.str s]]
                                                        [])))
                                                none)
                                            (some
                                              (Fin.ret (AV.bool false),
                                                St.mk
                                                  [Ob.cells
                                                      [AV.str c, AV.int IntKind.i64 o, AV.int IntKind.i64 k,
                                                        AV.int IntKind.i64 n, AV.str s]]
                                                  [])))
                                          none)
                                      (onSome
                                        (dTri
                                          [AV.sl 5 true
                                              [[AV.str c, AV.int IntKind.i64 o, AV.int IntKind.i64 k, AV.int IntKind.i64 n,
                                                  AV.str s]],
                                            frz x, frz y])
                                        none fun (o_5 : Tri) =>
                                        branch (AV.bool (triOk o_5))
                                          (branch
                                            (AV.bool
                                              (holdsF o_5.fst.list o_5.snd.fst.list o_5.snd.snd.list ==
                                                (truF o_2.fst o_2.snd.fst.list o_2.snd.snd.list == 1)))
                                            (onSome
                                              (dTri
                                                [AV.sl 5 true
                                                    [[AV.str c, AV.int IntKind.i64 o, AV.int IntKind.i64 k,
                                                        AV.int IntKind.i64 n, AV.str s]],
                                                  frz x, frz y])
                                              none fun (o_6 : Tri) =>
                                              branch (AV.bool (triOk o_6))
                                                (some
                                                  (Fin.ret
                                                      (AV.bool
                                                        (refusesF o_6.fst.list o_6.snd.fst.list o_6.snd.snd.list ==
                                                          (truF o_2.fst o_2.snd.fst.list o_2.snd.snd.list == 0))),
                                                    St.mk
                                                      [Ob.cells
                                                          [AV.str c, AV.int IntKind.i64 o, AV.int IntKind.i64 k,
                                                            AV.int IntKind.i64 n, AV.str s]]
                                                      []))
                                                none)
                                            (some
                                              (Fin.ret (AV.bool false),
                                                St.mk
                                                  [Ob.cells
                                                      [AV.str c, AV.int IntKind.i64 o, AV.int IntKind.i64 k,
                                                        AV.int IntKind.i64 n, AV.str s]]
                                                  [])))
                                          none))
                                    none))
                              (onSome
                                (dTri
                                  [AV.sl 5 true
                                      [[AV.str c, AV.int IntKind.i64 o, AV.int IntKind.i64 k, AV.int IntKind.i64 n,
                                          AV.str s]],
                                    frz x, frz y])
                                none fun (o_4 : Tri) =>
                                branch (AV.bool (triOk o_4))
                                  (branch (AV.bool (holdsF o_4.fst.list o_4.snd.fst.list o_4.snd.snd.list))
                                    (onSome
                                      (dTri
                                        [AV.sl 5 true
                                            [[AV.str c, AV.int IntKind.i64 o, AV.int IntKind.i64 k, AV.int IntKind.i64 n,
                                                AV.str s]],
                                          frz x, frz y])
                                      none fun (o_5 : Tri) =>
                                      branch (AV.bool (triOk o_5))
                                        (branch (AV.bool !refusesF o_5.fst.list o_5.snd.fst.list o_5.snd.snd.list)
                                          (onSome
                                            (dTri
                                              [AV.sl 5 true
                                                  [[AV.str c, AV.int IntKind.i64 o, AV.int IntKind.i64 k,
                                                      AV.int IntKind.i64 n, AV.str s]],
                                                frz x, frz y])
                                            none fun (o_6 : Tri) =>
                                            branch (AV.bool (triOk o_6))
                                              (branch
                                                (AV.bool
                                                  (holdsF o_6.fst.list o_6.snd.fst.list o_6.snd.snd.list ==
                                                    (truF o_2.fst o_2.snd.fst.list o_2.snd.snd.list == 1)))
                                                (onSome
                                                  (dTri
                                                    [AV.sl 5 true
                                                        [[AV.str c, AV.int IntKind.i64 o, AV.int IntKind.i64 k,
                                                            AV.int IntKind.i64 n, AV.str s]],
                                                      frz x, frz y])
                                                  none fun (o_7 : Tri) =>
                                                  branch (AV.bool (triOk o_7))
                                                    (some
                                                      (Fin.ret
                                                          (AV.bool
                                                            (refusesF o_7.fst.list o_7.snd.fst.list o_7.snd.snd.list ==
                                                              (truF o_2.fst o_2.snd.fst.list o_2.snd.snd.list == 0))),
                                                        St.mk
                                                          [Ob.cells
                                                              [AV.str c, AV.int IntKind.i64 o, AV.int IntKind.i64 k,
                                                                AV.int IntKind.i64 n, AV.str s]]
                                                          []))
                                                    none)
                                                (some
                                                  (Fin.ret (AV.bool false),
                                                    St.mk
                                                      [Ob.cells
                                                          [AV.str c, AV.int IntKind.i64 o, AV.int IntKind.i64 k,
                                                            AV.int IntKind.i64 n, AV.str s]]
                                                      [])))
                                              none)
                                          (some
                                            (Fin.ret (AV.bool false),
                                              St.mk
                                                [Ob.cells
                                                    [AV.str c, AV.int IntKind.i64 o, AV.int IntKind.i64 k,
                                                      AV.int IntKind.i64 n, AV.str s]]
                                                [])))
                                        none)
                                    (onSome
                                      (dTri
                                        [AV.sl 5 true
                                            [[AV.str c, AV.int IntKind.i64 o, AV.int IntKind.i64 k, AV.int IntKind.i64 n,
                                                AV.str s]],
                                          frz x, frz y])
                                      none fun (o_5 : Tri) =>
                                      branch (AV.bool (triOk o_5))
                                        (branch
                                          (AV.bool
                                            (holdsF o_5.fst.list o_5.snd.fst.list o_5.snd.snd.list ==
                                              (truF o_2.fst o_2.snd.fst.list o_2.snd.snd.list == 1)))
                                          (onSome
                                            (dTri
                                              [AV.sl 5 true
                                                  [[AV.str c, AV.int IntKind.i64 o, AV.int IntKind.i64 k,
                                                      AV.int IntKind.i64 n, AV.str s]],
                                                frz x, frz y])
                                            none fun (o_6 : Tri) =>
                                            branch (AV.bool (triOk o_6))
                                              (some
                                                (Fin.ret
                                                    (AV.bool
                                                      (refusesF o_6.fst.list o_6.snd.fst.list o_6.snd.snd.list ==
                                                        (truF o_2.fst o_2.snd.fst.list o_2.snd.snd.list == 0))),
                                                  St.mk
                                                    [Ob.cells
                                                        [AV.str c, AV.int IntKind.i64 o, AV.int IntKind.i64 k,
                                                          AV.int IntKind.i64 n, AV.str s]]
                                                    []))
                                              none)
                                          (some
                                            (Fin.ret (AV.bool false),
                                              St.mk
                                                [Ob.cells
                                                    [AV.str c, AV.int IntKind.i64 o, AV.int IntKind.i64 k,
                                                      AV.int IntKind.i64 n, AV.str s]]
                                                [])))
                                        none))
                                  none)))
                          none)
                      none))))))
        none := by kernel_rfl

end Go.Proofs.Ytnmglmkkeghnaaa.V
