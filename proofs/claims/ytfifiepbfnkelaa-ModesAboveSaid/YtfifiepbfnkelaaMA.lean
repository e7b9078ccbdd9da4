/- What the functions' runs come to; the right sides were printed by a tool, Lean checks them. -/
import Derived.Test.YtfifiepbfnkelaaM9
set_option linter.unusedVariables false
set_option maxRecDepth 100000
namespace Go.Proofs.Ytfifiepbfnkelaa.V
open Go Go.V Go.RowKit

theorem above_run (k : Int) (t u : ByteArray) (st : St) :
    (f16.run 0 [thing (k, t, u)] st : Ans) =
    branch (AV.bool !fitsF (k, t, u)) (some (Fin.ret AV.nilsl, st))
      (branch (AV.bool (k == 3))
        (some (Fin.ret (AV.sl 3 true [[AV.int IntKind.i64 1, AV.str (ByteArray.mk #[]), AV.str (ByteArray.mk #[])]]), st))
        (branch (AV.bool (k == 4))
          (some
            (Fin.ret
                (AV.sl 3 true
                  [[AV.int IntKind.i64 1, AV.str (ByteArray.mk #[]), AV.str (ByteArray.mk #[])],
                    [AV.int IntKind.i64 3, AV.str t, AV.str (ByteArray.mk #[])]]),
              st))
          (some (Fin.ret AV.nilsl, st)))) := by kernel_rfl

theorem above2_run (k : Int) (t u : ByteArray) (st : St) :
    (f17.run 0 [thing (k, t, u)] st : Ans) =
    branch (AV.bool !fitsF (k, t, u)) (some (Fin.ret AV.nilsl, st))
      (branch (AV.bool (decide ((k, t, u).fst < 3))) (some (Fin.ret AV.nilsl, st))
        (branch (AV.bool (k == 4))
          (some
            (Fin.ret
                (AV.lg st.tk.length 3
                  [[AV.int IntKind.i64 1, AV.str (ByteArray.mk #[]), AV.str (ByteArray.mk #[])],
                    [AV.int IntKind.i64 3, AV.str t, AV.str (ByteArray.mk #[])]]),
              St.mk st.objs (st.tk ++ [(3, 2)])))
          (some
            (Fin.ret (AV.sl 3 true [[AV.int IntKind.i64 1, AV.str (ByteArray.mk #[]), AV.str (ByteArray.mk #[])]]), st)))) := by kernel_rfl

end Go.Proofs.Ytfifiepbfnkelaa.V
