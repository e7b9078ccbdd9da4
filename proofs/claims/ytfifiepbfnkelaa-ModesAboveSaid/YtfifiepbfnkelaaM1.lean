/- What the functions' runs come to; the right sides were printed by a tool, Lean checks them. -/
import Derived.Test.YtfifiepbfnkelaaM0
set_option linter.unusedVariables false
set_option maxRecDepth 100000
namespace Go.Proofs.Ytfifiepbfnkelaa.V
open Go Go.V Go.RowKit

theorem right_run (m : Int) (st : St) :
    (f9.run 0 [.int .i64 m] st : Ans) =
    branch (AV.bool (decide (m ≥ 1))) (some (Fin.ret (AV.bool (decide (m ≤ 8))), st)) (some (Fin.ret (AV.bool false), st)) := by kernel_rfl

theorem right2_run (m : Int) (st : St) :
    (f23.run 0 [.int .i64 m] st : Ans) =
    branch (AV.bool (decide (m ≥ 1))) (some (Fin.ret (AV.bool (decide (m ≤ 8))), st)) (some (Fin.ret (AV.bool false), st)) := by kernel_rfl

theorem fits_run (k : Int) (t u : ByteArray) (st : St) :
    (f18.run 0 [.agg [.int .i64 k, .str t, .str u]] st : Ans) =
    branch (AV.bool (k == 1))
      (branch (AV.bool (t.toList == (ByteArray.mk #[]).toList))
        (some (Fin.ret (AV.bool (u.toList == (ByteArray.mk #[]).toList)), st)) (some (Fin.ret (AV.bool false), st)))
      (branch (AV.bool (k == 2))
        (branch (AV.bool (t.toList == (ByteArray.mk #[]).toList))
          (some (Fin.ret (AV.bool (u.toList == (ByteArray.mk #[]).toList)), st)) (some (Fin.ret (AV.bool false), st)))
        (branch (AV.bool (k == 3)) (some (Fin.ret (AV.bool (u.toList == (ByteArray.mk #[]).toList)), st))
          (some (Fin.ret (AV.bool (k == 4)), st)))) := by kernel_rfl

theorem fits2_run (k : Int) (t u : ByteArray) (st : St) :
    (f19.run 0 [.agg [.int .i64 k, .str t, .str u]] st : Ans) =
    branch (AV.bool (k == 1))
      (branch (AV.bool (t.toList == (ByteArray.mk #[]).toList))
        (some (Fin.ret (AV.bool (u.toList == (ByteArray.mk #[]).toList)), st)) (some (Fin.ret (AV.bool false), st)))
      (branch (AV.bool (k == 2))
        (branch (AV.bool (t.toList == (ByteArray.mk #[]).toList))
          (some (Fin.ret (AV.bool (u.toList == (ByteArray.mk #[]).toList)), st)) (some (Fin.ret (AV.bool false), st)))
        (branch (AV.bool (k == 3)) (some (Fin.ret (AV.bool (u.toList == (ByteArray.mk #[]).toList)), st))
          (some (Fin.ret (AV.bool (k == 4)), st)))) := by kernel_rfl

theorem row_run (m : Int) (st : St) :
    (f22.run 0 [.int .i64 m] st : Ans) =
    branch (AV.bool (m == 1)) (some (Fin.ret (AV.sl 1 true [[AV.int IntKind.i64 6], [AV.int IntKind.i64 8]]), st))
      (branch (AV.bool (m == 2))
        (some
          (Fin.ret
              (AV.sl 1 true
                [[AV.int IntKind.i64 3], [AV.int IntKind.i64 5], [AV.int IntKind.i64 6], [AV.int IntKind.i64 8]]),
            st))
        (branch (AV.bool (m == 3))
          (some
            (Fin.ret
                (AV.sl 1 true
                  [[AV.int IntKind.i64 2], [AV.int IntKind.i64 5], [AV.int IntKind.i64 6], [AV.int IntKind.i64 8]]),
              st))
          (branch (AV.bool (m == 4))
            (some (Fin.ret (AV.sl 1 true [[AV.int IntKind.i64 4], [AV.int IntKind.i64 6], [AV.int IntKind.i64 8]]), st))
            (branch (AV.bool (m == 5))
              (some
                (Fin.ret
                    (AV.sl 1 true
                      [[AV.int IntKind.i64 2], [AV.int IntKind.i64 3], [AV.int IntKind.i64 5], [AV.int IntKind.i64 6],
                        [AV.int IntKind.i64 8]]),
                  st))
              (branch (AV.bool (m == 6))
                (some
                  (Fin.ret
                      (AV.sl 1 true
                        [[AV.int IntKind.i64 1], [AV.int IntKind.i64 2], [AV.int IntKind.i64 3], [AV.int IntKind.i64 4],
                          [AV.int IntKind.i64 5], [AV.int IntKind.i64 6], [AV.int IntKind.i64 8]]),
                    st))
                (branch (AV.bool (m == 7)) (some (Fin.ret (AV.sl 1 true [[AV.int IntKind.i64 8]]), st))
                  (branch (AV.bool (m == 8))
                    (some
                      (Fin.ret
                          (AV.sl 1 true
                            [[AV.int IntKind.i64 1], [AV.int IntKind.i64 2], [AV.int IntKind.i64 3], [AV.int IntKind.i64 4],
                              [AV.int IntKind.i64 5], [AV.int IntKind.i64 6], [AV.int IntKind.i64 7],
                              [AV.int IntKind.i64 8]]),
                        st))
                    (some (Fin.ret AV.nilsl, st))))))))) := by kernel_rfl

theorem conf_run (m : Int) (st : St) :
    (f20.run 0 [.int .i64 m] st : Ans) =
    branch (AV.bool (m == 1)) (some (Fin.ret (AV.int IntKind.u16 320), st))
      (branch (AV.bool (m == 2)) (some (Fin.ret (AV.int IntKind.u16 360), st))
        (branch (AV.bool (m == 3)) (some (Fin.ret (AV.int IntKind.u16 356), st))
          (branch (AV.bool (m == 4)) (some (Fin.ret (AV.int IntKind.u16 336), st))
            (branch (AV.bool (m == 5)) (some (Fin.ret (AV.int IntKind.u16 364), st))
              (branch (AV.bool (m == 6)) (some (Fin.ret (AV.int IntKind.u16 382), st))
                (branch (AV.bool (m == 7)) (some (Fin.ret (AV.int IntKind.u16 256), st))
                  (branch (AV.bool (m == 8)) (some (Fin.ret (AV.int IntKind.u16 510), st))
                    (some (Fin.ret (AV.int IntKind.u16 0), st))))))))) := by kernel_rfl

theorem size_run (m : Int) (st : St) :
    (f24.run 0 [.int .i64 m] st : Ans) =
    branch (AV.bool (m == 1)) (some (Fin.ret (AV.int IntKind.i64 2), st))
      (branch (AV.bool (m == 2)) (some (Fin.ret (AV.int IntKind.i64 4), st))
        (branch (AV.bool (m == 3)) (some (Fin.ret (AV.int IntKind.i64 4), st))
          (branch (AV.bool (m == 4)) (some (Fin.ret (AV.int IntKind.i64 3), st))
            (branch (AV.bool (m == 5)) (some (Fin.ret (AV.int IntKind.i64 5), st))
              (branch (AV.bool (m == 6)) (some (Fin.ret (AV.int IntKind.i64 7), st))
                (branch (AV.bool (m == 7)) (some (Fin.ret (AV.int IntKind.i64 1), st))
                  (branch (AV.bool (m == 8)) (some (Fin.ret (AV.int IntKind.i64 8), st))
                    (some (Fin.ret (AV.int IntKind.i64 0), st))))))))) := by kernel_rfl

theorem conf2_run (a b : Int) (st : St) :
    (f11.run 12 [.int .i64 a, .int .i64 b] st : Ans) =
    branch (AV.bool (a == 1))
      (branch (AV.bool (6 == b)) (some (Fin.ret (AV.bool true), st))
        (branch (AV.bool (8 == b)) (some (Fin.ret (AV.bool true), st)) (some (Fin.ret (AV.bool false), st))))
      (branch (AV.bool (a == 2))
        (branch (AV.bool (3 == b)) (some (Fin.ret (AV.bool true), st))
          (branch (AV.bool (5 == b)) (some (Fin.ret (AV.bool true), st))
            (branch (AV.bool (6 == b)) (some (Fin.ret (AV.bool true), st))
              (branch (AV.bool (8 == b)) (some (Fin.ret (AV.bool true), st)) (some (Fin.ret (AV.bool false), st))))))
        (branch (AV.bool (a == 3))
          (branch (AV.bool (2 == b)) (some (Fin.ret (AV.bool true), st))
            (branch (AV.bool (5 == b)) (some (Fin.ret (AV.bool true), st))
              (branch (AV.bool (6 == b)) (some (Fin.ret (AV.bool true), st))
                (branch (AV.bool (8 == b)) (some (Fin.ret (AV.bool true), st)) (some (Fin.ret (AV.bool false), st))))))
          (branch (AV.bool (a == 4))
            (branch (AV.bool (4 == b)) (some (Fin.ret (AV.bool true), st))
              (branch (AV.bool (6 == b)) (some (Fin.ret (AV.bool true), st))
                (branch (AV.bool (8 == b)) (some (Fin.ret (AV.bool true), st)) (some (Fin.ret (AV.bool false), st)))))
            (branch (AV.bool (a == 5))
              (branch (AV.bool (2 == b)) (some (Fin.ret (AV.bool true), st))
                (branch (AV.bool (3 == b)) (some (Fin.ret (AV.bool true), st))
                  (branch (AV.bool (5 == b)) (some (Fin.ret (AV.bool true), st))
                    (branch (AV.bool (6 == b)) (some (Fin.ret (AV.bool true), st))
                      (branch (AV.bool (8 == b)) (some (Fin.ret (AV.bool true), st))
                        (some (Fin.ret (AV.bool false), st)))))))
              (branch (AV.bool (a == 6))
                (branch (AV.bool (1 == b)) (some (Fin.ret (AV.bool true), st))
                  (branch (AV.bool (2 == b)) (some (Fin.ret (AV.bool true), st))
                    (branch (AV.bool (3 == b)) (some (Fin.ret (AV.bool true), st))
                      (branch (AV.bool (4 == b)) (some (Fin.ret (AV.bool true), st))
                        (branch (AV.bool (5 == b)) (some (Fin.ret (AV.bool true), st))
                          (branch (AV.bool (6 == b)) (some (Fin.ret (AV.bool true), st))
                            (branch (AV.bool (8 == b)) (some (Fin.ret (AV.bool true), st))
                              (some (Fin.ret (AV.bool false), st)))))))))
                (branch (AV.bool (a == 7))
                  (branch (AV.bool (8 == b)) (some (Fin.ret (AV.bool true), st)) (some (Fin.ret (AV.bool false), st)))
                  (branch (AV.bool (a == 8))
                    (branch (AV.bool (1 == b)) (some (Fin.ret (AV.bool true), st))
                      (branch (AV.bool (2 == b)) (some (Fin.ret (AV.bool true), st))
                        (branch (AV.bool (3 == b)) (some (Fin.ret (AV.bool true), st))
                          (branch (AV.bool (4 == b)) (some (Fin.ret (AV.bool true), st))
                            (branch (AV.bool (5 == b)) (some (Fin.ret (AV.bool true), st))
                              (branch (AV.bool (6 == b)) (some (Fin.ret (AV.bool true), st))
                                (branch (AV.bool (7 == b)) (some (Fin.ret (AV.bool true), st))
                                  (branch (AV.bool (8 == b)) (some (Fin.ret (AV.bool true), st))
                                    (some (Fin.ret (AV.bool false), st))))))))))
                    (some (Fin.ret (AV.bool false), st))))))))) := by kernel_rfl

end Go.Proofs.Ytfifiepbfnkelaa.V
