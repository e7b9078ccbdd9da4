/- What the functions' runs come to; the right sides were printed by a tool, Lean checks them. -/
import Derived.Test.YtjdpfblmhahfkaaBF
set_option linter.unusedVariables false
set_option maxRecDepth 100000
namespace Go.Proofs.Ytjdpfblmhahfkaa.V
open Go Go.V Go.RowKit

theorem one_run (l : List (List AV)) :
    (f3.run 20 [.sl 1 false l] ⟨[], []⟩ : Ans) =
    branch (AV.bool (decide ((↑l.length : Int) > 500))) (some (Fin.ret (AV.bool true), St.mk [] []))
      (branch (AV.bool (fit (Br.sl false l)))
        (branch (AV.bool (fit (Br.sl l.isEmpty l)))
          (onSome (getN (nR l)) (some (Fin.ret (AV.bool true), St.mk [Ob.cells [AV.nilsl, AV.bool true]] []))
            fun (o : Int × Nat) =>
            branch (AV.bool (i64B o.fst))
              (if
                  0 ≤ IntKind.i64.wrap ((↑l.length : Int) - (↑(List.drop o.snd l).length : Int)) ∧
                    IntKind.i64.wrap ((↑l.length : Int) - (↑(List.drop o.snd l).length : Int)) ≤ (↑l.length : Int) then
                branch
                  (AV.bool
                    (fit
                        (Br.sl false (rb (intBytes o.fst)),
                            Br.sl
                              (match none with
                              | none =>
                                false &&
                                  (IntKind.i64.wrap ((↑l.length : Int) - (↑(List.drop o.snd l).length : Int))).toNat.beq
                                    l.length
                              | some m =>
                                (IntKind.i64.wrap ((↑l.length : Int) - (↑(List.drop o.snd l).length : Int))).toNat.beq m)
                              (List.drop 0
                                (List.take
                                  (IntKind.i64.wrap ((↑l.length : Int) - (↑(List.drop o.snd l).length : Int))).toNat
                                  l))).fst &&
                      okR
                        (Br.sl false (rb (intBytes o.fst)),
                              Br.sl
                                (match none with
                                | none =>
                                  false &&
                                    (IntKind.i64.wrap ((↑l.length : Int) - (↑(List.drop o.snd l).length : Int))).toNat.beq
                                      l.length
                                | some m =>
                                  (IntKind.i64.wrap ((↑l.length : Int) - (↑(List.drop o.snd l).length : Int))).toNat.beq m)
                                (List.drop 0
                                  (List.take
                                    (IntKind.i64.wrap ((↑l.length : Int) - (↑(List.drop o.snd l).length : Int))).toNat
                                    l))).snd.list))
                  (some
                    (Fin.ret
                        (AV.bool
                          (sameRows
                            (iR
                              (Br.sl false (rb (intBytes o.fst)),
                                    Br.sl
                                      (match none with
                                      | none =>
                                        false &&
                                          (IntKind.i64.wrap
                                                  ((↑l.length : Int) - (↑(List.drop o.snd l).length : Int))).toNat.beq
                                            l.length
                                      | some m =>
                                        (IntKind.i64.wrap
                                                ((↑l.length : Int) - (↑(List.drop o.snd l).length : Int))).toNat.beq
                                          m)
                                      (List.drop 0
                                        (List.take
                                          (IntKind.i64.wrap ((↑l.length : Int) - (↑(List.drop o.snd l).length : Int))).toNat
                                          l))).fst.list)
                            (iR
                              (Br.sl false (rb (intBytes o.fst)),
                                    Br.sl
                                      (match none with
                                      | none =>
                                        false &&
                                          (IntKind.i64.wrap
                                                  ((↑l.length : Int) - (↑(List.drop o.snd l).length : Int))).toNat.beq
                                            l.length
                                      | some m =>
                                        (IntKind.i64.wrap
                                                ((↑l.length : Int) - (↑(List.drop o.snd l).length : Int))).toNat.beq
                                          m)
                                      (List.drop 0
                                        (List.take
                                          (IntKind.i64.wrap ((↑l.length : Int) - (↑(List.drop o.snd l).length : Int))).toNat
                                          l))).snd.list))),
                      St.mk [Ob.cells [AV.sl 1 l.isEmpty (List.drop o.snd l), AV.bool false]]
                        [(1, (intBytes o.fst).length)]))
                  none
              else none)
              none)
          none)
        none) := by kernel_rfl

theorem one_nil  :
    (f3.run 20 [.nilsl] ⟨[], []⟩ : Ans) =
    some (Fin.ret (AV.bool true), St.mk [Ob.cells [AV.nilsl, AV.bool true]] []) := by kernel_rfl

theorem short_run (n cut : Int) (s : ByteArray) :
    (f4.run 20 [.int .i64 n, .str s, .int .i64 cut] ⟨[], []⟩ : Ans) =
    branch (AV.bool (decide ((↑s.size : Int) > 1000))) (some (Fin.ret (AV.bool true), St.mk [] []))
      (branch (AV.bool (decide (cut < 0))) (some (Fin.ret (AV.bool true), St.mk [] []))
        (branch (AV.bool (i64B n))
          (branch (AV.bool (shortS s))
            (branch (AV.bool (decide (cut < (↑(rb (intBytes n)).length : Int))))
              (if 0 ≤ cut ∧ cut ≤ (↑(rb (intBytes n)).length : Int) then
                branch
                  (AV.bool
                    (fit
                      (Br.sl
                        (match none with
                        | none => false
                        | some m => cut.toNat.beq m)
                        (List.drop 0 (List.take cut.toNat (rb (intBytes n)))))))
                  (branch
                    (AV.bool
                      (fit
                        (Br.sl (List.drop 0 (List.take cut.toNat (rb (intBytes n)))).isEmpty
                          (List.drop 0 (List.take cut.toNat (rb (intBytes n)))))))
                    (onSome (getN (nR (List.drop 0 (List.take cut.toNat (rb (intBytes n))))))
                      (branch (AV.bool (decide (cut < (↑(rb (textBytes s)).length : Int))))
                        (if 0 ≤ cut ∧ cut ≤ (↑(rb (textBytes s)).length : Int) then
                          branch
                            (AV.bool
                              (fit
                                (Br.sl
                                  (match none with
                                  | none => false
                                  | some m => cut.toNat.beq m)
                                  (List.drop 0 (List.take cut.toNat (rb (textBytes s)))))))
                            (branch
                              (AV.bool
                                (fit
                                  (Br.sl (List.drop 0 (List.take cut.toNat (rb (textBytes s)))).isEmpty
                                    (List.drop 0 (List.take cut.toNat (rb (textBytes s)))))))
                              (onSome (getS (nR (List.drop 0 (List.take cut.toNat (rb (textBytes s))))))
                                (some
                                  (Fin.ret (AV.bool true),
                                    St.mk [Ob.cells [AV.nilsl, AV.bool true], Ob.cells [AV.nilsl, AV.bool true]]
                                      [(1, (intBytes n).length), (1, (textBytes s).length)]))
                                fun (o : ByteArray × Nat) =>
                                branch (AV.bool !o.fst.toList == [])
                                  (some
                                    (Fin.ret (AV.bool false),
                                      St.mk
                                        [Ob.cells [AV.nilsl, AV.bool true],
                                          Ob.cells
                                            [AV.sl 1 (List.drop 0 (List.take cut.toNat (rb (textBytes s)))).isEmpty
                                                (List.drop o.snd (List.drop 0 (List.take cut.toNat (rb (textBytes s))))),
                                              AV.bool false]]
                                        [(1, (intBytes n).length), (1, (textBytes s).length)]))
                                  (some
                                    (Fin.ret (AV.bool false),
                                      St.mk
                                        [Ob.cells [AV.nilsl, AV.bool true],
                                          Ob.cells
                                            [AV.sl 1 (List.drop 0 (List.take cut.toNat (rb (textBytes s)))).isEmpty
                                                (List.drop o.snd (List.drop 0 (List.take cut.toNat (rb (textBytes s))))),
                                              AV.bool false]]
                                        [(1, (intBytes n).length), (1, (textBytes s).length)])))
                              none)
                            none
                        else none)
                        (some
                          (Fin.ret (AV.bool true),
                            St.mk [Ob.cells [AV.nilsl, AV.bool true]]
                              [(1, (intBytes n).length), (1, (textBytes s).length)])))
                      fun (o : Int × Nat) =>
                      branch (AV.bool (o.fst != 0))
                        (some
                          (Fin.ret (AV.bool false),
                            St.mk
                              [Ob.cells
                                  [AV.sl 1 (List.drop 0 (List.take cut.toNat (rb (intBytes n)))).isEmpty
                                      (List.drop o.snd (List.drop 0 (List.take cut.toNat (rb (intBytes n))))),
                                    AV.bool false]]
                              [(1, (intBytes n).length), (1, (textBytes s).length)]))
                        (some
                          (Fin.ret (AV.bool false),
                            St.mk
                              [Ob.cells
                                  [AV.sl 1 (List.drop 0 (List.take cut.toNat (rb (intBytes n)))).isEmpty
                                      (List.drop o.snd (List.drop 0 (List.take cut.toNat (rb (intBytes n))))),
                                    AV.bool false]]
                              [(1, (intBytes n).length), (1, (textBytes s).length)])))
                    none)
                  none
              else none)
              (branch (AV.bool (decide (cut < (↑(rb (textBytes s)).length : Int))))
                (if 0 ≤ cut ∧ cut ≤ (↑(rb (textBytes s)).length : Int) then
                  branch
                    (AV.bool
                      (fit
                        (Br.sl
                          (match none with
                          | none => false
                          | some m => cut.toNat.beq m)
                          (List.drop 0 (List.take cut.toNat (rb (textBytes s)))))))
                    (branch
                      (AV.bool
                        (fit
                          (Br.sl (List.drop 0 (List.take cut.toNat (rb (textBytes s)))).isEmpty
                            (List.drop 0 (List.take cut.toNat (rb (textBytes s)))))))
                      (onSome (getS (nR (List.drop 0 (List.take cut.toNat (rb (textBytes s))))))
                        (some
                          (Fin.ret (AV.bool true),
                            St.mk [Ob.cells [AV.nilsl, AV.bool true]]
                              [(1, (intBytes n).length), (1, (textBytes s).length)]))
                        fun (o : ByteArray × Nat) =>
                        branch (AV.bool !o.fst.toList == [])
                          (some
                            (Fin.ret (AV.bool false),
                              St.mk
                                [Ob.cells
                                    [AV.sl 1 (List.drop 0 (List.take cut.toNat (rb (textBytes s)))).isEmpty
                                        (List.drop o.snd (List.drop 0 (List.take cut.toNat (rb (textBytes s))))),
                                      AV.bool false]]
                                [(1, (intBytes n).length), (1, (textBytes s).length)]))
                          (some
                            (Fin.ret (AV.bool false),
                              St.mk
                                [Ob.cells
                                    [AV.sl 1 (List.drop 0 (List.take cut.toNat (rb (textBytes s)))).isEmpty
                                        (List.drop o.snd (List.drop 0 (List.take cut.toNat (rb (textBytes s))))),
                                      AV.bool false]]
                                [(1, (intBytes n).length), (1, (textBytes s).length)])))
                      none)
                    none
                else none)
                (some (Fin.ret (AV.bool true), St.mk [] [(1, (intBytes n).length), (1, (textBytes s).length)]))))
            none)
          none)) := by kernel_rfl

end Go.Proofs.Ytjdpfblmhahfkaa.V
