/- What the functions' runs come to; the right sides were printed by a tool, Lean checks them. -/
import Derived.Test.YtfifiepbfnkelaaMI
set_option linter.unusedVariables false
set_option maxRecDepth 100000
namespace Go.Proofs.Ytfifiepbfnkelaa.V
open Go Go.V Go.RowKit

theorem things_run (k : Int) (t u : ByteArray) :
    (f4.run 6 [thing (k, t, u)] ⟨[], []⟩ : Ans) =
    branch (AV.bool !fitsF (k, t, u))
      (branch (AV.bool !fitsF (k, t, u))
        (branch (AV.bool !fitsF (k, t, u) == fitsF (k, t, u)) (some (Fin.ret (AV.bool false), St.mk [] []))
          (some (Fin.ret (AV.bool true), St.mk [] [])))
        (branch (AV.bool (decide ((k, t, u).fst < 3)))
          (branch (AV.bool !fitsF (k, t, u) == fitsF (k, t, u)) (some (Fin.ret (AV.bool false), St.mk [] []))
            (some (Fin.ret (AV.bool true), St.mk [] [])))
          (branch (AV.bool (k == 4))
            (branch (AV.bool !fitsF (k, t, u) == fitsF (k, t, u)) (some (Fin.ret (AV.bool false), St.mk [] [(3, 2)]))
              (some (Fin.ret (AV.bool false), St.mk [] [(3, 2)])))
            (branch (AV.bool !fitsF (k, t, u) == fitsF (k, t, u)) (some (Fin.ret (AV.bool false), St.mk [] []))
              (some (Fin.ret (AV.bool false), St.mk [] []))))))
      (branch (AV.bool (k == 3))
        (branch (AV.bool !fitsF (k, t, u))
          (branch (AV.bool !fitsF (k, t, u) == fitsF (k, t, u)) (some (Fin.ret (AV.bool false), St.mk [] []))
            (some (Fin.ret (AV.bool false), St.mk [] [])))
          (branch (AV.bool (decide ((k, t, u).fst < 3)))
            (branch (AV.bool !fitsF (k, t, u) == fitsF (k, t, u)) (some (Fin.ret (AV.bool false), St.mk [] []))
              (some (Fin.ret (AV.bool false), St.mk [] [])))
            (branch (AV.bool (k == 4))
              (branch (AV.bool !fitsF (k, t, u) == fitsF (k, t, u)) (some (Fin.ret (AV.bool false), St.mk [] [(3, 2)]))
                (some (Fin.ret (AV.bool false), St.mk [] [(3, 2)])))
              (branch (AV.bool !fitsF (k, t, u) == fitsF (k, t, u)) (some (Fin.ret (AV.bool false), St.mk [] []))
                (some (Fin.ret (AV.bool true), St.mk [] []))))))
        (branch (AV.bool (k == 4))
          (branch (AV.bool !fitsF (k, t, u))
            (branch (AV.bool !fitsF (k, t, u) == fitsF (k, t, u)) (some (Fin.ret (AV.bool false), St.mk [] []))
              (some (Fin.ret (AV.bool false), St.mk [] [])))
            (branch (AV.bool (decide ((k, t, u).fst < 3)))
              (branch (AV.bool !fitsF (k, t, u) == fitsF (k, t, u)) (some (Fin.ret (AV.bool false), St.mk [] []))
                (some (Fin.ret (AV.bool false), St.mk [] [])))
              (branch (AV.bool (k == 4))
                (branch (AV.bool !fitsF (k, t, u) == fitsF (k, t, u)) (some (Fin.ret (AV.bool false), St.mk [] [(3, 2)]))
                  (branch (AV.bool !(true && (t.toList == t.toList && true)))
                    (some (Fin.ret (AV.bool false), St.mk [] [(3, 2)])) (some (Fin.ret (AV.bool true), St.mk [] [(3, 2)]))))
                (branch (AV.bool !fitsF (k, t, u) == fitsF (k, t, u)) (some (Fin.ret (AV.bool false), St.mk [] []))
                  (some (Fin.ret (AV.bool false), St.mk [] []))))))
          (branch (AV.bool !fitsF (k, t, u))
            (branch (AV.bool !fitsF (k, t, u) == fitsF (k, t, u)) (some (Fin.ret (AV.bool false), St.mk [] []))
              (some (Fin.ret (AV.bool true), St.mk [] [])))
            (branch (AV.bool (decide ((k, t, u).fst < 3)))
              (branch (AV.bool !fitsF (k, t, u) == fitsF (k, t, u)) (some (Fin.ret (AV.bool false), St.mk [] []))
                (some (Fin.ret (AV.bool true), St.mk [] [])))
              (branch (AV.bool (k == 4))
                (branch (AV.bool !fitsF (k, t, u) == fitsF (k, t, u)) (some (Fin.ret (AV.bool false), St.mk [] [(3, 2)]))
                  (some (Fin.ret (AV.bool false), St.mk [] [(3, 2)])))
                (branch (AV.bool !fitsF (k, t, u) == fitsF (k, t, u)) (some (Fin.ret (AV.bool false), St.mk [] []))
                  (some (Fin.ret (AV.bool false), St.mk [] [])))))))) := by kernel_rfl

theorem law7_run (k : Int) (t u : ByteArray) :
    (f7.run 6 [thing (k, t, u)] ⟨[], []⟩ : Ans) =
    branch (AV.bool !fitsF (k, t, u))
      (branch (AV.bool (fitsF (k, t, u))) (some (Fin.ret (AV.bool true), St.mk [] []))
        (some (Fin.ret (AV.bool true), St.mk [] [])))
      (branch (AV.bool (k == 3))
        (branch (AV.bool (decide (1 ≥ (k, t, u).fst))) (some (Fin.ret (AV.bool false), St.mk [] []))
          (branch (AV.bool (fitsF (k, t, u))) (some (Fin.ret (AV.bool true), St.mk [] []))
            (some (Fin.ret (AV.bool false), St.mk [] []))))
        (branch (AV.bool (k == 4))
          (branch (AV.bool (decide (1 ≥ (k, t, u).fst))) (some (Fin.ret (AV.bool false), St.mk [] []))
            (branch (AV.bool (decide (3 ≥ (k, t, u).fst))) (some (Fin.ret (AV.bool false), St.mk [] []))
              (branch (AV.bool (fitsF (k, t, u))) (some (Fin.ret (AV.bool true), St.mk [] []))
                (some (Fin.ret (AV.bool false), St.mk [] [])))))
          (branch (AV.bool (fitsF (k, t, u))) (some (Fin.ret (AV.bool true), St.mk [] []))
            (some (Fin.ret (AV.bool true), St.mk [] []))))) := by kernel_rfl

end Go.Proofs.Ytfifiepbfnkelaa.V
