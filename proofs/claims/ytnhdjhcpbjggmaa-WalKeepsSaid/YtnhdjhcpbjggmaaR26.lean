/- Merged out of 4 texts: what the claim's code comes to, and why. -/
import Derived.Test.YtnhdjhcpbjggmaaR25
set_option linter.unusedVariables false
set_option linter.unusedSimpArgs false
set_option maxRecDepth 100000
namespace Go.Proofs.Ytnhdjhcpbjggmaa.V
open Go Go.V Go.RowKit
theorem keeps_run (F : Nat) (z y : Bool) (l b : List (List AV)) (k t : Int) :
 (f3.run F [.ns z 1 l, .ns y 1 b, .int .i64 k, .int .i64 t] ⟨[], []⟩ : Ans) =
 branch (.bool (okBs l && true))
 (branch (.bool (decide (weighV l (5000 : Int) > 5000))) (some (Fin.ret (.bool true), St.mk [] []))
 (branch (.bool (okBs b && true))
 (branch (.bool (decide (weighV b (5000 : Int) > 5000))) (some (Fin.ret (.bool true), St.mk [] []))
 (onSome
 (dkG 0 (dk0 (newO (300 : Int))) (dk1 (newO (300 : Int))) (dk2 0 (newO (300 : Int)))
 (dk3 (newO (300 : Int))))
 none fun (o : Dk) =>
 branch (.bool (cdec (o.3.length < 999998)))
 (branch (.bool (fmtB o))
 (loopRun (f3_l0.run F)
 [0, 1, 2, 3, 9, 11, 12, 14]
 (Cont.block 0 (Cont.then (f3_r1.run F (f3.leaveK Fun.done)) (f3.leaveK Fun.done))) F
 (Env.mk 127
 [(0, AV.ns z 1 l), (1, AV.ns y 1 b),
 (2, .int .i64 k), (3, .int .i64 t),
 (9, AV.ptr 2 0), (11, AV.ptr 4 0),
 (12, AV.sl 1 true []), (14, .int .i64 0)])
 (St.mk
 [dk0 o.fmtO, dk1 o.fmtO, dk2 0 o.fmtO, dk3 o.fmtO,
 Ob.cells
 [AV.ptr 2 0, .int .i64 (lv0 (fmtLO o)),
 .int .i64 (lv1 (fmtLO o)), .int .i64 (lv2 (fmtLO o)),
 .int .i64 (lv3 (fmtLO o)), .int .i64 (lv4 (fmtLO o))]]
 []))
 (branch (.bool (fmtEO o != 0))
 (some
 (Fin.ret (.bool false),
 St.mk
 [dk0 (newO (300 : Int)), dk1 (newO (300 : Int)), dk2 0 (newO (300 : Int)),
 dk3 (newO (300 : Int))]
 []))
 (some
 (Fin.ret (.bool false),
 St.mk
 [dk0 (newO (300 : Int)), dk1 (newO (300 : Int)), dk2 0 (newO (300 : Int)),
 dk3 (newO (300 : Int))]
 []))))
 none))
 none))
 none := by kernel_rfl
theorem keeps_a0 (F m : Nat) (X : Dk) (g a f p s : Int) (z y : Bool) (l b : List (List AV)) (k t i : Int) (K : Cont) :
 (loopRun (f3_l0.run F) [0, 1, 2, 3, 9, 11, 12, 14] K m.succ (Env.mk 127 [(0, .ns z 1 l), (1, .ns y 1 b), (2, .int .i64 k), (3, .int .i64 t), (9, .ptr 2 0), (11, .ptr 4 0), (12, .sl 1 true []), (14, .int .i64 i)]) ⟨[dk0 X, dk1 X, dk2 0 X, dk3 X, .cells [.ptr 2 0, .int .i64 g, .int .i64 a, .int .i64 f, .int .i64 p, .int .i64 s]], []⟩ : Ans) =
 branch (.bool (decide (i < (↑l.length : Int))))
 (branch (.bool (inR l i))
 (branch (.bool ((LD.one (LT.ns 1)).is (V.rowAt l i)))
 (onSome (dkG 0 (dk0 X) (dk1 X) (dk2 0 X) (dk3 X)) none fun (o : Dk) =>
 onSome
 (lgG
 [.int .i64 g, .int .i64 a, .int .i64 f, .int .i64 p,
 .int .i64 s])
 none fun (o_1 : Lg) =>
 branch (.bool (byOk (rwA (V.rowAt l i)) && cdec (LOk o o_1)))
 (branch (.bool (appEO o o_1 (nR (rwA (V.rowAt l i))) == 0))
 (branch (.bool (inR l i))
 (branch (.bool ((LD.one (LT.ns 1)).is (V.rowAt l i)))
 (loopRun (f3_l0.run F)
 [0, 1, 2, 3, 9, 11, 12, 14] K m
 (Env.mk 127
 [(0, AV.ns z 1 l), (1, AV.ns y 1 b),
 (2, .int .i64 k), (3, .int .i64 t),
 (9, AV.ptr 2 0), (11, AV.ptr 4 0),
 (12,
 AV.lg 0 1 [[AV.ns (nilA (V.rowAt l i)) 1 (rwA (V.rowAt l i))]]),
 (14, .int .i64 (IntKind.i64.wrap (i + 1)))])
 (St.mk
 [dk0 (o.appO o_1 (nR (rwA (V.rowAt l i)))), dk1 (o.appO o_1 (nR (rwA (V.rowAt l i)))),
 dk2 0 (o.appO o_1 (nR (rwA (V.rowAt l i)))), dk3 (o.appO o_1 (nR (rwA (V.rowAt l i)))),
 Ob.cells
 [AV.ptr 2 0, .int .i64 (lv0 (o_1.appO o (nR (rwA (V.rowAt l i))))),
 .int .i64 (lv1 (o_1.appO o (nR (rwA (V.rowAt l i))))),
 .int .i64 (lv2 (o_1.appO o (nR (rwA (V.rowAt l i))))),
 .int .i64 (lv3 (o_1.appO o (nR (rwA (V.rowAt l i))))),
 .int .i64 (lv4 (o_1.appO o (nR (rwA (V.rowAt l i)))))]]
 [(1, 1)]))
 none)
 none)
 (loopRun (f3_l0.run F)
 [0, 1, 2, 3, 9, 11, 12, 14] K m
 (Env.mk 127
 [(0, AV.ns z 1 l), (1, AV.ns y 1 b),
 (2, .int .i64 k), (3, .int .i64 t),
 (9, AV.ptr 2 0), (11, AV.ptr 4 0),
 (12, AV.sl 1 true []),
 (14, .int .i64 (IntKind.i64.wrap (i + 1)))])
 (St.mk
 [dk0 (o.appO o_1 (nR (rwA (V.rowAt l i)))), dk1 (o.appO o_1 (nR (rwA (V.rowAt l i)))),
 dk2 0 (o.appO o_1 (nR (rwA (V.rowAt l i)))), dk3 (o.appO o_1 (nR (rwA (V.rowAt l i)))),
 Ob.cells
 [AV.ptr 2 0, .int .i64 (lv0 (o_1.appO o (nR (rwA (V.rowAt l i))))),
 .int .i64 (lv1 (o_1.appO o (nR (rwA (V.rowAt l i))))),
 .int .i64 (lv2 (o_1.appO o (nR (rwA (V.rowAt l i))))),
 .int .i64 (lv3 (o_1.appO o (nR (rwA (V.rowAt l i))))),
 .int .i64 (lv4 (o_1.appO o (nR (rwA (V.rowAt l i)))))]]
 [])))
 none)
 none)
 none)
 (K (AX.exit 0)
 (Env.mk 127
 [(1, AV.ns y 1 b), (2, .int .i64 k), (3, .int .i64 t),
 (9, AV.ptr 2 0), (11, AV.ptr 4 0),
 (12, AV.sl 1 true [])])
 (St.mk
 [dk0 X, dk1 X, dk2 0 X, dk3 X,
 Ob.cells
 [AV.ptr 2 0, .int .i64 g, .int .i64 a, .int .i64 f,
 .int .i64 p, .int .i64 s]]
 [])) := by kernel_rfl
theorem keeps_mid0 (F : Nat) (X : Dk) (g a f p s : Int) (y : Bool) (b : List (List AV)) (k t : Int) (K : Cont) :
 (f3_r1.run F K (Env.mk 127 [(1, .ns y 1 b), (2, .int .i64 k), (3, .int .i64 t), (9, .ptr 2 0), (11, .ptr 4 0), (12, .sl 1 true [])]) ⟨[dk0 X, dk1 X, dk2 0 X, dk3 X, .cells [.ptr 2 0, .int .i64 g, .int .i64 a, .int .i64 f, .int .i64 p, .int .i64 s]], []⟩ : Ans) =
 onSome (dkG 0 (dk0 X) (dk1 X) (dk2 0 X) (dk3 X)) none fun (o : Dk) =>
 onSome
 (lgG [.int .i64 g, .int .i64 a, .int .i64 f, .int .i64 p, .int .i64 s])
 none fun (o_1 : Lg) =>
 loopRun (f3_l1.run F) [1, 2, 3, 9, 11, 12, 13, 15]
 (Cont.block 2 (Cont.then (f3_r0.run F K) K)) F
 (Env.mk 127
 [(1, AV.ns y 1 b), (2, .int .i64 k), (3, .int .i64 t),
 (9, AV.ptr 2 0), (11, AV.ptr 4 0),
 (12, AV.sl 1 true []), (13, .int .i64 (opq (0 : Int))),
 (15, .int .i64 0)])
 (St.mk
 [dk0 o.flushO, dk1 o.flushO, dk2 0 o.flushO, dk3 o.flushO,
 Ob.cells
 [AV.ptr 2 0, .int .i64 (lv0 o_1), .int .i64 (lv1 o_1),
 .int .i64 (lv2 o_1), .int .i64 (lv3 o_1), .int .i64 (lv4 o_1)]]
 []) := by kernel_rfl
theorem keeps_b0 (F m : Nat) (X : Dk) (g a f p s : Int) (y : Bool) (b : List (List AV)) (k t n i : Int) (K : Cont) :
 (loopRun (f3_l1.run F) [1, 2, 3, 9, 11, 12, 13, 15] K m.succ (Env.mk 127 [(1, .ns y 1 b), (2, .int .i64 k), (3, .int .i64 t), (9, .ptr 2 0), (11, .ptr 4 0), (12, .sl 1 true []), (13, .int .i64 n), (15, .int .i64 i)]) ⟨[dk0 X, dk1 X, dk2 0 X, dk3 X, .cells [.ptr 2 0, .int .i64 g, .int .i64 a, .int .i64 f, .int .i64 p, .int .i64 s]], []⟩ : Ans) =
 branch (.bool (decide (i < (↑b.length : Int))))
 (branch (.bool (inR b i))
 (branch (.bool ((LD.one (LT.ns 1)).is (V.rowAt b i)))
 (onSome (dkG 0 (dk0 X) (dk1 X) (dk2 0 X) (dk3 X)) none fun (o : Dk) =>
 onSome
 (lgG
 [.int .i64 g, .int .i64 a, .int .i64 f, .int .i64 p,
 .int .i64 s])
 none fun (o_1 : Lg) =>
 branch (.bool (byOk (rwA (V.rowAt b i)) && cdec (LOk o o_1)))
 (branch (.bool (appEO o o_1 (nR (rwA (V.rowAt b i))) == 0))
 (branch (.bool (inR b i))
 (branch (.bool ((LD.one (LT.ns 1)).is (V.rowAt b i)))
 (loopRun (f3_l1.run F)
 [1, 2, 3, 9, 11, 12, 13, 15] K m
 (Env.mk 127
 [(1, AV.ns y 1 b), (2, .int .i64 k),
 (3, .int .i64 t), (9, AV.ptr 2 0),
 (11, AV.ptr 4 0),
 (12,
 AV.lg 0 1 [[AV.ns (nilA (V.rowAt b i)) 1 (rwA (V.rowAt b i))]]),
 (13, .int .i64 n),
 (15, .int .i64 (IntKind.i64.wrap (i + 1)))])
 (St.mk
 [dk0 (o.appO o_1 (nR (rwA (V.rowAt b i)))), dk1 (o.appO o_1 (nR (rwA (V.rowAt b i)))),
 dk2 0 (o.appO o_1 (nR (rwA (V.rowAt b i)))), dk3 (o.appO o_1 (nR (rwA (V.rowAt b i)))),
 Ob.cells
 [AV.ptr 2 0, .int .i64 (lv0 (o_1.appO o (nR (rwA (V.rowAt b i))))),
 .int .i64 (lv1 (o_1.appO o (nR (rwA (V.rowAt b i))))),
 .int .i64 (lv2 (o_1.appO o (nR (rwA (V.rowAt b i))))),
 .int .i64 (lv3 (o_1.appO o (nR (rwA (V.rowAt b i))))),
 .int .i64 (lv4 (o_1.appO o (nR (rwA (V.rowAt b i)))))]]
 [(1, 1)]))
 none)
 none)
 (loopRun (f3_l1.run F)
 [1, 2, 3, 9, 11, 12, 13, 15] K m
 (Env.mk 127
 [(1, AV.ns y 1 b), (2, .int .i64 k),
 (3, .int .i64 t), (9, AV.ptr 2 0),
 (11, AV.ptr 4 0), (12, AV.sl 1 true []),
 (13, .int .i64 n),
 (15, .int .i64 (IntKind.i64.wrap (i + 1)))])
 (St.mk
 [dk0 (o.appO o_1 (nR (rwA (V.rowAt b i)))), dk1 (o.appO o_1 (nR (rwA (V.rowAt b i)))),
 dk2 0 (o.appO o_1 (nR (rwA (V.rowAt b i)))), dk3 (o.appO o_1 (nR (rwA (V.rowAt b i)))),
 Ob.cells
 [AV.ptr 2 0, .int .i64 (lv0 (o_1.appO o (nR (rwA (V.rowAt b i))))),
 .int .i64 (lv1 (o_1.appO o (nR (rwA (V.rowAt b i))))),
 .int .i64 (lv2 (o_1.appO o (nR (rwA (V.rowAt b i))))),
 .int .i64 (lv3 (o_1.appO o (nR (rwA (V.rowAt b i))))),
 .int .i64 (lv4 (o_1.appO o (nR (rwA (V.rowAt b i)))))]]
 [])))
 none)
 none)
 none)
 (K (AX.exit 2)
 (Env.mk 127
 [(2, .int .i64 k), (3, .int .i64 t), (9, AV.ptr 2 0),
 (12, AV.sl 1 true []), (13, .int .i64 n)])
 (St.mk
 [dk0 X, dk1 X, dk2 0 X, dk3 X,
 Ob.cells
 [AV.ptr 2 0, .int .i64 g, .int .i64 a, .int .i64 f,
 .int .i64 p, .int .i64 s]]
 [])) := by kernel_rfl
theorem keeps_out0 (F : Nat) (X : Dk) (g a f p s : Int) (k t n : Int) (K : Cont) :
 (f3_r0.run F K (Env.mk 127 [(2, .int .i64 k), (3, .int .i64 t), (9, .ptr 2 0), (12, .sl 1 true []), (13, .int .i64 n)]) ⟨[dk0 X, dk1 X, dk2 0 X, dk3 X, .cells [.ptr 2 0, .int .i64 g, .int .i64 a, .int .i64 f, .int .i64 p, .int .i64 s]], []⟩ : Ans) =
 onSome (dkG 0 (dk0 X) (dk1 X) (dk2 0 X) (dk3 X)) none fun (o : Dk) =>
 onSome (dkG 0 (dk0 (o.crashO k t)) (dk1 (o.crashO k t)) (dk2 0 (o.crashO k t)) (dk3 (o.crashO k t)))
 none fun (o_1 : Dk) =>
 branch (.bool (cdec (o_1.3.length < 900000)))
 (branch (.bool (opB o_1))
 (branch (.bool (decide (opq (↑(opRO o_1).length : Int) ≥ n)))
 (branch (.bool (decide (opq (↑(opRO o_1).length : Int) ≤ opq (0 : Int))))
 (if (0 : Int) ≤ opq (↑(opRO o_1).length : Int) ∧ opq (↑(opRO o_1).length : Int) ≤ 0 then
 branch
 (AV.bool
 (okBs (opRO o_1) && okBs (List.drop 0 (List.take (opq (↑(opRO o_1).length : Int)).toNat []))))
 (K AX.ret
 (Env.mk 127
 [(8,
 AV.bool
 (bsR (opRO o_1) ==
 bsR (List.drop 0 (List.take (opq (↑(opRO o_1).length : Int)).toNat []))))])
 (St.mk
 [dk0 (o.crashO k t), dk1 (o.crashO k t), dk2 0 (o.crashO k t), dk3 (o.crashO k t),
 Ob.cells
 [AV.ptr 2 0, .int .i64 g, .int .i64 a, .int .i64 f,
 .int .i64 p, .int .i64 s],
 Ob.cells
 [AV.ptr 2 0, .int .i64 (lv0 (opLO o_1)),
 .int .i64 (lv1 (opLO o_1)), .int .i64 (lv2 (opLO o_1)),
 .int .i64 (lv3 (opLO o_1)), .int .i64 (lv4 (opLO o_1))]]
 []))
 none
 else none)
 (K AX.ret (Env.mk 127 [(8, AV.bool false)])
 (St.mk
 [dk0 (o.crashO k t), dk1 (o.crashO k t), dk2 0 (o.crashO k t), dk3 (o.crashO k t),
 Ob.cells
 [AV.ptr 2 0, .int .i64 g, .int .i64 a, .int .i64 f,
 .int .i64 p, .int .i64 s],
 Ob.cells
 [AV.ptr 2 0, .int .i64 (lv0 (opLO o_1)),
 .int .i64 (lv1 (opLO o_1)), .int .i64 (lv2 (opLO o_1)),
 .int .i64 (lv3 (opLO o_1)), .int .i64 (lv4 (opLO o_1))]]
 [])))
 (K AX.ret (Env.mk 127 [(8, AV.bool false)])
 (St.mk
 [dk0 (o.crashO k t), dk1 (o.crashO k t), dk2 0 (o.crashO k t), dk3 (o.crashO k t),
 Ob.cells
 [AV.ptr 2 0, .int .i64 g, .int .i64 a, .int .i64 f,
 .int .i64 p, .int .i64 s],
 Ob.cells
 [AV.ptr 2 0, .int .i64 (lv0 (opLO o_1)), .int .i64 (lv1 (opLO o_1)),
 .int .i64 (lv2 (opLO o_1)), .int .i64 (lv3 (opLO o_1)),
 .int .i64 (lv4 (opLO o_1))]]
 [])))
 (branch (.bool (opEO o_1 == 0))
 (branch (.bool (decide (opq (0 : Int) ≥ n)))
 (branch (.bool (decide (opq (0 : Int) ≤ opq (0 : Int))))
 (if (0 : Int) ≤ opq (0 : Int) ∧ opq (0 : Int) ≤ 0 then
 branch (.bool (okBs [] && okBs (List.drop 0 (List.take (opq (0 : Int)).toNat []))))
 (K AX.ret
 (Env.mk 127
 [(8, AV.bool ([] == bsR (List.drop 0 (List.take (opq (0 : Int)).toNat []))))])
 (St.mk
 [dk0 (o.crashO k t), dk1 (o.crashO k t), dk2 0 (o.crashO k t), dk3 (o.crashO k t),
 Ob.cells
 [AV.ptr 2 0, .int .i64 g, .int .i64 a, .int .i64 f,
 .int .i64 p, .int .i64 s]]
 []))
 none
 else none)
 (K AX.ret (Env.mk 127 [(8, AV.bool false)])
 (St.mk
 [dk0 (o.crashO k t), dk1 (o.crashO k t), dk2 0 (o.crashO k t), dk3 (o.crashO k t),
 Ob.cells
 [AV.ptr 2 0, .int .i64 g, .int .i64 a, .int .i64 f,
 .int .i64 p, .int .i64 s]]
 [])))
 (K AX.ret (Env.mk 127 [(8, AV.bool false)])
 (St.mk
 [dk0 (o.crashO k t), dk1 (o.crashO k t), dk2 0 (o.crashO k t), dk3 (o.crashO k t),
 Ob.cells
 [AV.ptr 2 0, .int .i64 g, .int .i64 a, .int .i64 f,
 .int .i64 p, .int .i64 s]]
 [])))
 (K AX.ret (Env.mk 127 [(8, AV.bool false)])
 (St.mk
 [dk0 (o.crashO k t), dk1 (o.crashO k t), dk2 0 (o.crashO k t), dk3 (o.crashO k t),
 Ob.cells
 [AV.ptr 2 0, .int .i64 g, .int .i64 a, .int .i64 f,
 .int .i64 p, .int .i64 s]]
 []))))
 none := by kernel_rfl
theorem keeps_a (F m : Nat) (X : Dk) (g a f p s : Int) (z y : Bool) (l b c : List (List AV)) (k t i : Int) (K : Cont) :
 (loopRun (f3_l0.run F) [0, 1, 2, 3, 9, 11, 12, 14] K m.succ (Env.mk 127 [(0, .ns z 1 l), (1, .ns y 1 b), (2, .int .i64 k), (3, .int .i64 t), (9, .ptr 2 0), (11, .ptr 4 0), (12, .lg 0 1 c), (14, .int .i64 i)]) ⟨[dk0 X, dk1 X, dk2 0 X, dk3 X, .cells [.ptr 2 0, .int .i64 g, .int .i64 a, .int .i64 f, .int .i64 p, .int .i64 s]], [(1, c.length)]⟩ : Ans) =
 branch (.bool (decide (i < (↑l.length : Int))))
 (branch (.bool (inR l i))
 (branch (.bool ((LD.one (LT.ns 1)).is (V.rowAt l i)))
 (onSome (dkG 0 (dk0 X) (dk1 X) (dk2 0 X) (dk3 X)) none fun (o : Dk) =>
 onSome
 (lgG
 [.int .i64 g, .int .i64 a, .int .i64 f, .int .i64 p,
 .int .i64 s])
 none fun (o_1 : Lg) =>
 branch (.bool (byOk (rwA (V.rowAt l i)) && cdec (LOk o o_1)))
 (branch (.bool (appEO o o_1 (nR (rwA (V.rowAt l i))) == 0))
 (branch (.bool (inR l i))
 (branch (.bool ((LD.one (LT.ns 1)).is (V.rowAt l i)))
 (if
 some (1, c.length) = some (1, c.length) ∧
 (c.length + 1) * 24 ≤ 140737488355328 then
 loopRun (f3_l0.run F)
 [0, 1, 2, 3, 9, 11, 12, 14] K m
 (Env.mk 127
 [(0, AV.ns z 1 l), (1, AV.ns y 1 b),
 (2, .int .i64 k), (3, .int .i64 t),
 (9, AV.ptr 2 0), (11, AV.ptr 4 0),
 (12,
 AV.lg 0 1
 (c ++ [[AV.ns (nilA (V.rowAt l i)) 1 (rwA (V.rowAt l i))]])),
 (14, .int .i64 (IntKind.i64.wrap (i + 1)))])
 (St.mk
 [dk0 (o.appO o_1 (nR (rwA (V.rowAt l i)))), dk1 (o.appO o_1 (nR (rwA (V.rowAt l i)))),
 dk2 0 (o.appO o_1 (nR (rwA (V.rowAt l i)))),
 dk3 (o.appO o_1 (nR (rwA (V.rowAt l i)))),
 Ob.cells
 [AV.ptr 2 0, .int .i64 (lv0 (o_1.appO o (nR (rwA (V.rowAt l i))))),
 .int .i64 (lv1 (o_1.appO o (nR (rwA (V.rowAt l i))))),
 .int .i64 (lv2 (o_1.appO o (nR (rwA (V.rowAt l i))))),
 .int .i64 (lv3 (o_1.appO o (nR (rwA (V.rowAt l i))))),
 .int .i64 (lv4 (o_1.appO o (nR (rwA (V.rowAt l i)))))]]
 [(1, c.length + 1)])
 else none)
 none)
 none)
 (loopRun (f3_l0.run F)
 [0, 1, 2, 3, 9, 11, 12, 14] K m
 (Env.mk 127
 [(0, AV.ns z 1 l), (1, AV.ns y 1 b),
 (2, .int .i64 k), (3, .int .i64 t),
 (9, AV.ptr 2 0), (11, AV.ptr 4 0),
 (12, AV.lg 0 1 c),
 (14, .int .i64 (IntKind.i64.wrap (i + 1)))])
 (St.mk
 [dk0 (o.appO o_1 (nR (rwA (V.rowAt l i)))), dk1 (o.appO o_1 (nR (rwA (V.rowAt l i)))),
 dk2 0 (o.appO o_1 (nR (rwA (V.rowAt l i)))), dk3 (o.appO o_1 (nR (rwA (V.rowAt l i)))),
 Ob.cells
 [AV.ptr 2 0, .int .i64 (lv0 (o_1.appO o (nR (rwA (V.rowAt l i))))),
 .int .i64 (lv1 (o_1.appO o (nR (rwA (V.rowAt l i))))),
 .int .i64 (lv2 (o_1.appO o (nR (rwA (V.rowAt l i))))),
 .int .i64 (lv3 (o_1.appO o (nR (rwA (V.rowAt l i))))),
 .int .i64 (lv4 (o_1.appO o (nR (rwA (V.rowAt l i)))))]]
 [(1, c.length)])))
 none)
 none)
 none)
 (K (AX.exit 0)
 (Env.mk 127
 [(1, AV.ns y 1 b), (2, .int .i64 k), (3, .int .i64 t),
 (9, AV.ptr 2 0), (11, AV.ptr 4 0),
 (12, AV.lg 0 1 c)])
 (St.mk
 [dk0 X, dk1 X, dk2 0 X, dk3 X,
 Ob.cells
 [AV.ptr 2 0, .int .i64 g, .int .i64 a, .int .i64 f,
 .int .i64 p, .int .i64 s]]
 [(1, c.length)])) := by kernel_rfl
theorem keeps_mid (F : Nat) (X : Dk) (g a f p s : Int) (y : Bool) (b c : List (List AV)) (k t : Int) (K : Cont) :
 (f3_r1.run F K (Env.mk 127 [(1, .ns y 1 b), (2, .int .i64 k), (3, .int .i64 t), (9, .ptr 2 0), (11, .ptr 4 0), (12, .lg 0 1 c)]) ⟨[dk0 X, dk1 X, dk2 0 X, dk3 X, .cells [.ptr 2 0, .int .i64 g, .int .i64 a, .int .i64 f, .int .i64 p, .int .i64 s]], [(1, c.length)]⟩ : Ans) =
 onSome (dkG 0 (dk0 X) (dk1 X) (dk2 0 X) (dk3 X)) none fun (o : Dk) =>
 onSome
 (lgG [.int .i64 g, .int .i64 a, .int .i64 f, .int .i64 p, .int .i64 s])
 none fun (o_1 : Lg) =>
 loopRun (f3_l1.run F) [1, 2, 3, 9, 11, 12, 13, 15]
 (Cont.block 2 (Cont.then (f3_r0.run F K) K)) F
 (Env.mk 127
 [(1, AV.ns y 1 b), (2, .int .i64 k), (3, .int .i64 t),
 (9, AV.ptr 2 0), (11, AV.ptr 4 0),
 (12, AV.lg 0 1 c), (13, .int .i64 (opq (↑c.length : Int))),
 (15, .int .i64 0)])
 (St.mk
 [dk0 o.flushO, dk1 o.flushO, dk2 0 o.flushO, dk3 o.flushO,
 Ob.cells
 [AV.ptr 2 0, .int .i64 (lv0 o_1), .int .i64 (lv1 o_1),
 .int .i64 (lv2 o_1), .int .i64 (lv3 o_1), .int .i64 (lv4 o_1)]]
 [(1, c.length)]) := by kernel_rfl
theorem keeps_b (F m : Nat) (X : Dk) (g a f p s : Int) (y : Bool) (b c : List (List AV)) (k t n i : Int) (K : Cont) :
 (loopRun (f3_l1.run F) [1, 2, 3, 9, 11, 12, 13, 15] K m.succ (Env.mk 127 [(1, .ns y 1 b), (2, .int .i64 k), (3, .int .i64 t), (9, .ptr 2 0), (11, .ptr 4 0), (12, .lg 0 1 c), (13, .int .i64 n), (15, .int .i64 i)]) ⟨[dk0 X, dk1 X, dk2 0 X, dk3 X, .cells [.ptr 2 0, .int .i64 g, .int .i64 a, .int .i64 f, .int .i64 p, .int .i64 s]], [(1, c.length)]⟩ : Ans) =
 branch (.bool (decide (i < (↑b.length : Int))))
 (branch (.bool (inR b i))
 (branch (.bool ((LD.one (LT.ns 1)).is (V.rowAt b i)))
 (onSome (dkG 0 (dk0 X) (dk1 X) (dk2 0 X) (dk3 X)) none fun (o : Dk) =>
 onSome
 (lgG
 [.int .i64 g, .int .i64 a, .int .i64 f, .int .i64 p,
 .int .i64 s])
 none fun (o_1 : Lg) =>
 branch (.bool (byOk (rwA (V.rowAt b i)) && cdec (LOk o o_1)))
 (branch (.bool (appEO o o_1 (nR (rwA (V.rowAt b i))) == 0))
 (branch (.bool (inR b i))
 (branch (.bool ((LD.one (LT.ns 1)).is (V.rowAt b i)))
 (if
 some (1, c.length) = some (1, c.length) ∧
 (c.length + 1) * 24 ≤ 140737488355328 then
 loopRun (f3_l1.run F)
 [1, 2, 3, 9, 11, 12, 13, 15] K m
 (Env.mk 127
 [(1, AV.ns y 1 b), (2, .int .i64 k),
 (3, .int .i64 t), (9, AV.ptr 2 0),
 (11, AV.ptr 4 0),
 (12,
 AV.lg 0 1
 (c ++ [[AV.ns (nilA (V.rowAt b i)) 1 (rwA (V.rowAt b i))]])),
 (13, .int .i64 n),
 (15, .int .i64 (IntKind.i64.wrap (i + 1)))])
 (St.mk
 [dk0 (o.appO o_1 (nR (rwA (V.rowAt b i)))), dk1 (o.appO o_1 (nR (rwA (V.rowAt b i)))),
 dk2 0 (o.appO o_1 (nR (rwA (V.rowAt b i)))),
 dk3 (o.appO o_1 (nR (rwA (V.rowAt b i)))),
 Ob.cells
 [AV.ptr 2 0, .int .i64 (lv0 (o_1.appO o (nR (rwA (V.rowAt b i))))),
 .int .i64 (lv1 (o_1.appO o (nR (rwA (V.rowAt b i))))),
 .int .i64 (lv2 (o_1.appO o (nR (rwA (V.rowAt b i))))),
 .int .i64 (lv3 (o_1.appO o (nR (rwA (V.rowAt b i))))),
 .int .i64 (lv4 (o_1.appO o (nR (rwA (V.rowAt b i)))))]]
 [(1, c.length + 1)])
 else none)
 none)
 none)
 (loopRun (f3_l1.run F)
 [1, 2, 3, 9, 11, 12, 13, 15] K m
 (Env.mk 127
 [(1, AV.ns y 1 b), (2, .int .i64 k),
 (3, .int .i64 t), (9, AV.ptr 2 0),
 (11, AV.ptr 4 0), (12, AV.lg 0 1 c),
 (13, .int .i64 n),
 (15, .int .i64 (IntKind.i64.wrap (i + 1)))])
 (St.mk
 [dk0 (o.appO o_1 (nR (rwA (V.rowAt b i)))), dk1 (o.appO o_1 (nR (rwA (V.rowAt b i)))),
 dk2 0 (o.appO o_1 (nR (rwA (V.rowAt b i)))), dk3 (o.appO o_1 (nR (rwA (V.rowAt b i)))),
 Ob.cells
 [AV.ptr 2 0, .int .i64 (lv0 (o_1.appO o (nR (rwA (V.rowAt b i))))),
 .int .i64 (lv1 (o_1.appO o (nR (rwA (V.rowAt b i))))),
 .int .i64 (lv2 (o_1.appO o (nR (rwA (V.rowAt b i))))),
 .int .i64 (lv3 (o_1.appO o (nR (rwA (V.rowAt b i))))),
 .int .i64 (lv4 (o_1.appO o (nR (rwA (V.rowAt b i)))))]]
 [(1, c.length)])))
 none)
 none)
 none)
 (K (AX.exit 2)
 (Env.mk 127
 [(2, .int .i64 k), (3, .int .i64 t), (9, AV.ptr 2 0),
 (12, AV.lg 0 1 c), (13, .int .i64 n)])
 (St.mk
 [dk0 X, dk1 X, dk2 0 X, dk3 X,
 Ob.cells
 [AV.ptr 2 0, .int .i64 g, .int .i64 a, .int .i64 f,
 .int .i64 p, .int .i64 s]]
 [(1, c.length)])) := by kernel_rfl
theorem keeps_out (F : Nat) (X : Dk) (g a f p s : Int) (c : List (List AV)) (k t n : Int) (K : Cont) :
 (f3_r0.run F K (Env.mk 127 [(2, .int .i64 k), (3, .int .i64 t), (9, .ptr 2 0), (12, .lg 0 1 c), (13, .int .i64 n)]) ⟨[dk0 X, dk1 X, dk2 0 X, dk3 X, .cells [.ptr 2 0, .int .i64 g, .int .i64 a, .int .i64 f, .int .i64 p, .int .i64 s]], [(1, c.length)]⟩ : Ans) =
 onSome (dkG 0 (dk0 X) (dk1 X) (dk2 0 X) (dk3 X)) none fun (o : Dk) =>
 onSome (dkG 0 (dk0 (o.crashO k t)) (dk1 (o.crashO k t)) (dk2 0 (o.crashO k t)) (dk3 (o.crashO k t)))
 none fun (o_1 : Dk) =>
 branch (.bool (cdec (o_1.3.length < 900000)))
 (branch (.bool (opB o_1))
 (branch (.bool (decide (opq (↑(opRO o_1).length : Int) ≥ n)))
 (branch (.bool (decide (opq (↑(opRO o_1).length : Int) ≤ opq (↑c.length : Int))))
 (if (0 : Int) ≤ opq (↑(opRO o_1).length : Int) ∧ opq (↑(opRO o_1).length : Int) ≤ (↑c.length : Int) then
 branch
 (AV.bool
 (okBs (opRO o_1) && okBs (List.drop 0 (List.take (opq (↑(opRO o_1).length : Int)).toNat c))))
 (K AX.ret
 (Env.mk 127
 [(8,
 AV.bool
 (bsR (opRO o_1) ==
 bsR (List.drop 0 (List.take (opq (↑(opRO o_1).length : Int)).toNat c))))])
 (St.mk
 [dk0 (o.crashO k t), dk1 (o.crashO k t), dk2 0 (o.crashO k t), dk3 (o.crashO k t),
 Ob.cells
 [AV.ptr 2 0, .int .i64 g, .int .i64 a, .int .i64 f,
 .int .i64 p, .int .i64 s],
 Ob.cells
 [AV.ptr 2 0, .int .i64 (lv0 (opLO o_1)),
 .int .i64 (lv1 (opLO o_1)), .int .i64 (lv2 (opLO o_1)),
 .int .i64 (lv3 (opLO o_1)), .int .i64 (lv4 (opLO o_1))]]
 [(1, c.length)]))
 none
 else none)
 (K AX.ret (Env.mk 127 [(8, AV.bool false)])
 (St.mk
 [dk0 (o.crashO k t), dk1 (o.crashO k t), dk2 0 (o.crashO k t), dk3 (o.crashO k t),
 Ob.cells
 [AV.ptr 2 0, .int .i64 g, .int .i64 a, .int .i64 f,
 .int .i64 p, .int .i64 s],
 Ob.cells
 [AV.ptr 2 0, .int .i64 (lv0 (opLO o_1)),
 .int .i64 (lv1 (opLO o_1)), .int .i64 (lv2 (opLO o_1)),
 .int .i64 (lv3 (opLO o_1)), .int .i64 (lv4 (opLO o_1))]]
 [(1, c.length)])))
 (K AX.ret (Env.mk 127 [(8, AV.bool false)])
 (St.mk
 [dk0 (o.crashO k t), dk1 (o.crashO k t), dk2 0 (o.crashO k t), dk3 (o.crashO k t),
 Ob.cells
 [AV.ptr 2 0, .int .i64 g, .int .i64 a, .int .i64 f,
 .int .i64 p, .int .i64 s],
 Ob.cells
 [AV.ptr 2 0, .int .i64 (lv0 (opLO o_1)), .int .i64 (lv1 (opLO o_1)),
 .int .i64 (lv2 (opLO o_1)), .int .i64 (lv3 (opLO o_1)),
 .int .i64 (lv4 (opLO o_1))]]
 [(1, c.length)])))
 (branch (.bool (opEO o_1 == 0))
 (branch (.bool (decide (opq (0 : Int) ≥ n)))
 (branch (.bool (decide (opq (0 : Int) ≤ opq (↑c.length : Int))))
 (if (0 : Int) ≤ opq (0 : Int) ∧ opq (0 : Int) ≤ (↑c.length : Int) then
 branch (.bool (okBs [] && okBs (List.drop 0 (List.take (opq (0 : Int)).toNat c))))
 (K AX.ret
 (Env.mk 127
 [(8, AV.bool ([] == bsR (List.drop 0 (List.take (opq (0 : Int)).toNat c))))])
 (St.mk
 [dk0 (o.crashO k t), dk1 (o.crashO k t), dk2 0 (o.crashO k t), dk3 (o.crashO k t),
 Ob.cells
 [AV.ptr 2 0, .int .i64 g, .int .i64 a, .int .i64 f,
 .int .i64 p, .int .i64 s]]
 [(1, c.length)]))
 none
 else none)
 (K AX.ret (Env.mk 127 [(8, AV.bool false)])
 (St.mk
 [dk0 (o.crashO k t), dk1 (o.crashO k t), dk2 0 (o.crashO k t), dk3 (o.crashO k t),
 Ob.cells
 [AV.ptr 2 0, .int .i64 g, .int .i64 a, .int .i64 f,
 .int .i64 p, .int .i64 s]]
 [(1, c.length)])))
 (K AX.ret (Env.mk 127 [(8, AV.bool false)])
 (St.mk
 [dk0 (o.crashO k t), dk1 (o.crashO k t), dk2 0 (o.crashO k t), dk3 (o.crashO k t),
 Ob.cells
 [AV.ptr 2 0, .int .i64 g, .int .i64 a, .int .i64 f,
 .int .i64 p, .int .i64 s]]
 [(1, c.length)])))
 (K AX.ret (Env.mk 127 [(8, AV.bool false)])
 (St.mk
 [dk0 (o.crashO k t), dk1 (o.crashO k t), dk2 0 (o.crashO k t), dk3 (o.crashO k t),
 Ob.cells
 [AV.ptr 2 0, .int .i64 g, .int .i64 a, .int .i64 f,
 .int .i64 p, .int .i64 s]]
 [(1, c.length)]))))
 none := by kernel_rfl
def allV (c : List (List AV)) : AV := match c with
 | [] => .sl 1 true []
 | _ :: _ => .lg 0 1 c
def allT (c : List (List AV)) : List (Nat × Nat) := match c with
 | [] => []
 | _ :: _ => [(1, c.length)]
def envA (z y : Bool) (l b c : List (List AV)) (k t : Int) (i : Nat) : Env := Env.mk 127 [(0, .ns z 1 l), (1, .ns y 1 b), (2, .int .i64 k), (3, .int .i64 t), (9, .ptr 2 0), (11, .ptr 4 0), (12, allV c), (14, .int .i64 (i : Int))]
def envB (y : Bool) (b c : List (List AV)) (k t n : Int) (i : Nat) : Env := Env.mk 127 [(1, .ns y 1 b), (2, .int .i64 k), (3, .int .i64 t), (9, .ptr 2 0), (11, .ptr 4 0), (12, allV c), (13, .int .i64 n), (15, .int .i64 (i : Int))]
theorem hist_lok {X : Dk} {L : Lg} {n : Nat} {l : List (List Nat × Nat)} (h : Hist X L n l) : LOk X L := by
 have hw := h.w; have hp := h.p; have hsz := h.sz; have hn1 := h.ok.n1; have h10 := h.n10
 have hh : X.half = (X.n - 2) / 2 := rfl
 have hL := h.L
 exact ⟨by omega, by rw [hL]; exact Nat.zero_lt_succ 1, by rw [hL]; show totalN l < 900000; omega, by omega, by rw [hL]; show 1 + totalN l < _; omega⟩
theorem keeps_rA (F m : Nat) {X : Dk} {L : Lg} {n : Nat} {lh : List (List Nat × Nat)} (h : Hist X L n lh) (z y : Bool) (l c : List (List AV)) (b : List (List AV)) (hl : ∀ r ∈ l, isB r = true) (hln : l.length < 1000000) (hc : c.length < 1000000) (k t : Int) (i : Nat) (hi : i < l.length) (K : Cont) :
  loopRun (f3_l0.run F) [0, 1, 2, 3, 9, 11, 12, 14] K m.succ (envA z y l b c k t i) (recSt X L (allT c)) =
   if appE X L (nR (rwA l[i])) = 0 then loopRun (f3_l0.run F) [0, 1, 2, 3, 9, 11, 12, 14] K m (envA z y l b (c ++ [l[i]]) k t (i + 1)) (recSt (X.app L (nR (rwA l[i]))) (L.app X (nR (rwA l[i]))) (allT (c ++ [l[i]])))
   else loopRun (f3_l0.run F) [0, 1, 2, 3, 9, 11, 12, 14] K m (envA z y l b c k t (i + 1)) (recSt (X.app L (nR (rwA l[i]))) (L.app X (nR (rwA l[i]))) (allT c)) := by
 obtain ⟨a1, a2, a3, a4⟩ := isB_at hl hi
 obtain ⟨z', d', hr, hd'⟩ := isB_spec (hl _ (List.getElem_mem hi))
 have a2' : (LD.one (LT.ns 1)).is l[i] = true := by rw [← a4]; exact a2
 rw [a4] at a3
 have hL := hist_lok h
 have hw := h.w; have hp := h.p; have hsz := h.sz; have hn1 := h.ok.n1
 have hh : X.half = (X.n - 2) / 2 := rfl
 obtain ⟨e1, e2, e3⟩ := appO_eq X L (nR (rwA l[i]))
 obtain ⟨v0, v1, v2, v3, v4⟩ := lv_eq (L.app X (nR (rwA l[i])))
 have hrow : [AV.ns (nilA l[i]) 1 (rwA l[i])] = l[i] := by rw [hr]; rfl
 cases c with
 | nil =>
  have key := keeps_a0 F m X (L.g : Int) (L.a : Int) (L.f : Int) (L.p : Int) (L.s : Int) z y l b k t (i : Int) K
  refine Eq.trans key ?_
  rw [branch_of (decide_eq_true (by omega)), branch_of a1, branch_of a2, gD h.ok (by omega), onSome_some, lgG_cs, onSome_some, a4, branch_of (by rw [Bool.and_eq_true, cdec_iff]; exact ⟨a3, hL⟩), e1, e2, e3, v0, v1, v2, v3, v4, wrap_succ (by omega), hrow]
  by_cases he : appE X L (nR (rwA l[i])) = 0
  ·rw [if_pos he, he, branch_of (by rfl), branch_of a1, branch_of a2']; rfl
  ·rw [if_neg he, branch_not (by simp; omega)]; rfl
 | cons x c =>
  have key := keeps_a F m X (L.g : Int) (L.a : Int) (L.f : Int) (L.p : Int) (L.s : Int) z y l b (x :: c) k t (i : Int) K
  refine Eq.trans key ?_
  rw [branch_of (decide_eq_true (by omega)), branch_of a1, branch_of a2, gD h.ok (by omega), onSome_some, lgG_cs, onSome_some, a4, branch_of (by rw [Bool.and_eq_true, cdec_iff]; exact ⟨a3, hL⟩), e1, e2, e3, v0, v1, v2, v3, v4, wrap_succ (by omega), hrow]
  by_cases he : appE X L (nR (rwA l[i])) = 0
  ·rw [if_pos he, he, branch_of (by rfl), branch_of a1, branch_of a2', if_pos ⟨rfl, by omega⟩, show (x :: c).length + 1 = (x :: c ++ [l[i]]).length by simp]; rfl
  ·rw [if_neg he, branch_not (by simp; omega)]; rfl
theorem keeps_rB (F m : Nat) {X : Dk} {L : Lg} {n : Nat} {lh : List (List Nat × Nat)} (h : Hist X L n lh) (y : Bool) (l c : List (List AV)) (hl : ∀ r ∈ l, isB r = true) (hln : l.length < 1000000) (hc : c.length < 1000000) (k t n0 : Int) (i : Nat) (hi : i < l.length) (K : Cont) :
  loopRun (f3_l1.run F) [1, 2, 3, 9, 11, 12, 13, 15] K m.succ (envB y l c k t n0 i) (recSt X L (allT c)) =
   if appE X L (nR (rwA l[i])) = 0 then loopRun (f3_l1.run F) [1, 2, 3, 9, 11, 12, 13, 15] K m (envB y l (c ++ [l[i]]) k t n0 (i + 1)) (recSt (X.app L (nR (rwA l[i]))) (L.app X (nR (rwA l[i]))) (allT (c ++ [l[i]])))
   else loopRun (f3_l1.run F) [1, 2, 3, 9, 11, 12, 13, 15] K m (envB y l c k t n0 (i + 1)) (recSt (X.app L (nR (rwA l[i]))) (L.app X (nR (rwA l[i]))) (allT c)) := by
 obtain ⟨a1, a2, a3, a4⟩ := isB_at hl hi
 obtain ⟨z', d', hr, hd'⟩ := isB_spec (hl _ (List.getElem_mem hi))
 have a2' : (LD.one (LT.ns 1)).is l[i] = true := by rw [← a4]; exact a2
 rw [a4] at a3
 have hL := hist_lok h
 have hw := h.w; have hp := h.p; have hsz := h.sz; have hn1 := h.ok.n1
 have hh : X.half = (X.n - 2) / 2 := rfl
 obtain ⟨e1, e2, e3⟩ := appO_eq X L (nR (rwA l[i]))
 obtain ⟨v0, v1, v2, v3, v4⟩ := lv_eq (L.app X (nR (rwA l[i])))
 have hrow : [AV.ns (nilA l[i]) 1 (rwA l[i])] = l[i] := by rw [hr]; rfl
 cases c with
 | nil =>
  have key := keeps_b0 F m X (L.g : Int) (L.a : Int) (L.f : Int) (L.p : Int) (L.s : Int) y l k t n0 (i : Int) K
  refine Eq.trans key ?_
  rw [branch_of (decide_eq_true (by omega)), branch_of a1, branch_of a2, gD h.ok (by omega), onSome_some, lgG_cs, onSome_some, a4, branch_of (by rw [Bool.and_eq_true, cdec_iff]; exact ⟨a3, hL⟩), e1, e2, e3, v0, v1, v2, v3, v4, wrap_succ (by omega), hrow]
  by_cases he : appE X L (nR (rwA l[i])) = 0
  ·rw [if_pos he, he, branch_of (by rfl), branch_of a1, branch_of a2']; rfl
  ·rw [if_neg he, branch_not (by simp; omega)]; rfl
 | cons x c =>
  have key := keeps_b F m X (L.g : Int) (L.a : Int) (L.f : Int) (L.p : Int) (L.s : Int) y l (x :: c) k t n0 (i : Int) K
  refine Eq.trans key ?_
  rw [branch_of (decide_eq_true (by omega)), branch_of a1, branch_of a2, gD h.ok (by omega), onSome_some, lgG_cs, onSome_some, a4, branch_of (by rw [Bool.and_eq_true, cdec_iff]; exact ⟨a3, hL⟩), e1, e2, e3, v0, v1, v2, v3, v4, wrap_succ (by omega), hrow]
  by_cases he : appE X L (nR (rwA l[i])) = 0
  ·rw [if_pos he, he, branch_of (by rfl), branch_of a1, branch_of a2', if_pos ⟨rfl, by omega⟩, show (x :: c).length + 1 = (x :: c ++ [l[i]]).length by simp]; rfl
  ·rw [if_neg he, branch_not (by simp; omega)]; rfl
abbrev tyBs : Ty := .sl (.sl (.int .u8) 1) 24
theorem bs_shape {xs : List AV} (h : Ty.Shape tyBs xs) : ∃ z l, xs = [.ns z 1 l] ∧ okBs l = true := by
 obtain ⟨z, l, rfl, hz, h1, h2, h3⟩ := h
 refine ⟨z, l, rfl, okBs_iff.mpr ⟨fun r hr => ?_, ?_⟩⟩
 ·obtain ⟨z', d, rfl, d1, d2, d3⟩ := bytes_shape (h3 r hr)
  show (Nat.beq 1 1 && byOk d) = true
  rw [byOk_iff.mpr ⟨d1, d3⟩]; rfl
 ·have : reachBytes < 4611686018427387904 := by decide
  omega
theorem bsR_snoc (c : List (List AV)) (r : List AV) : bsR (c ++ [r]) = bsR c ++ [nR (rwA r)] := by simp [bsR]
theorem bsR_length (c : List (List AV)) : (bsR c).length = c.length := by simp [bsR]
theorem row_lt {l : List (List AV)} (hl : ∀ r ∈ l, isB r = true) {r : List AV} (hr : r ∈ l) : ∀ y ∈ nR (rwA r), y < 256 := by
 obtain ⟨z, d, e, hd⟩ := isB_spec (hl r hr)
 rw [e]
 exact fun y hy => okR_lt (byOk_iff.mp hd).1 hy
theorem keeps_loopA (F : Nat) (z y : Bool) (l b : List (List AV)) (hl : ∀ r ∈ l, isB r = true) (hln : l.length < 1000000) (k t : Int) (n : Nat) (K : Cont) : ∀ (d m i : Nat) (X : Dk) (L : Lg) (lh : List (List Nat × Nat)) (c : List (List AV)), i + d = l.length → d < m → Hist X L n lh → bsR c = lh.map (·.1) → c.length ≤ i → (∀ r ∈ c, isB r = true) →
  ∃ X' L' lh' c', Hist X' L' n lh' ∧ bsR c' = lh'.map (·.1) ∧ c'.length ≤ l.length ∧ (∀ r ∈ c', isB r = true) ∧
   loopRun (f3_l0.run F) [0, 1, 2, 3, 9, 11, 12, 14] K m (envA z y l b c k t i) (recSt X L (allT c)) = K (.exit 0) (Env.mk 127 [(1, .ns y 1 b), (2, .int .i64 k), (3, .int .i64 t), (9, .ptr 2 0), (11, .ptr 4 0), (12, allV c')]) (recSt X' L' (allT c'))
 | d, 0, i, X, L, lh, c, _, h, _, _, _, _ => by omega
 | 0, m + 1, i, X, L, lh, c, hi, _, hH, hb, hc, hcb => by
  refine ⟨X, L, lh, c, hH, hb, by omega, hcb, ?_⟩
  rw [show m + 1 = m.succ from rfl]
  cases c with
  | nil =>
   refine Eq.trans (keeps_a0 F m X (L.g : Int) (L.a : Int) (L.f : Int) (L.p : Int) (L.s : Int) z y l b k t (i : Int) K) ?_
   rw [branch_not (decide_eq_false (by omega))]; rfl
  | cons x c =>
   refine Eq.trans (keeps_a F m X (L.g : Int) (L.a : Int) (L.f : Int) (L.p : Int) (L.s : Int) z y l b (x :: c) k t (i : Int) K) ?_
   rw [branch_not (decide_eq_false (by omega))]; rfl
 | d + 1, m + 1, i, X, L, lh, c, hi, hm, hH, hb, hc, hcb => by
  have hi' : i < l.length := by omega
  have hlt := row_lt hl (List.getElem_mem hi')
  rw [show m + 1 = m.succ from rfl, keeps_rA F m hH z y l c b hl hln (by omega) k t i hi' K]
  rcases hH.app hlt with ⟨h1, h2, _⟩ | ⟨h1, h2, h3⟩
  ·obtain ⟨X', L', lh', c', q1, q2, q3, q4, q5⟩ := keeps_loopA F z y l b hl hln k t n K d m (i + 1) _ _ _ (c ++ [l[i]]) (by omega) (by omega) h2 (by rw [bsR_snoc, hb]; simp) (by simp; omega) (fun r hr => by
    rcases List.mem_append.mp hr with hr | hr
    ·exact hcb r hr
    ·simp only [List.mem_singleton] at hr; subst hr; exact hl _ (List.getElem_mem hi'))
   exact ⟨X', L', lh', c', q1, q2, q3, q4, by rw [if_pos h1]; exact q5⟩
  ·obtain ⟨X', L', lh', c', q1, q2, q3, q4, q5⟩ := keeps_loopA F z y l b hl hln k t n K d m (i + 1) X L lh c (by omega) (by omega) hH hb (by omega) hcb
   exact ⟨X', L', lh', c', q1, q2, q3, q4, by rw [if_neg h1, h2, h3]; exact q5⟩
theorem keeps_loopB (F : Nat) (y : Bool) (l : List (List AV)) (hl : ∀ r ∈ l, isB r = true) (B : Nat) (hln : l.length + B < 1000000) (k t n0 : Int) (n : Nat) (lf : List (List Nat × Nat)) (K : Cont) : ∀ (d m i : Nat) (X : Dk) (L : Lg) (lo : List (List Nat × Nat)) (c : List (List AV)), i + d = l.length → d < m → Hist X L n (lf ++ lo) → Pend X n (2 + totalN lf) (totalN lo) → bsR c = (lf ++ lo).map (·.1) → c.length ≤ i + B → (∀ r ∈ c, isB r = true) →
  ∃ X' L' lo' c', Hist X' L' n (lf ++ lo') ∧ Pend X' n (2 + totalN lf) (totalN lo') ∧ bsR c' = (lf ++ lo').map (·.1) ∧ c'.length ≤ l.length + B ∧ (∀ r ∈ c', isB r = true) ∧
   loopRun (f3_l1.run F) [1, 2, 3, 9, 11, 12, 13, 15] K m (envB y l c k t n0 i) (recSt X L (allT c)) = K (.exit 2) (Env.mk 127 [(2, .int .i64 k), (3, .int .i64 t), (9, .ptr 2 0), (12, allV c'), (13, .int .i64 n0)]) (recSt X' L' (allT c'))
 | d, 0, i, X, L, lo, c, _, h, _, _, _, _, _ => by omega
 | 0, m + 1, i, X, L, lo, c, hi, _, hH, hP, hb, hc, hcb => by
  refine ⟨X, L, lo, c, hH, hP, hb, by omega, hcb, ?_⟩
  rw [show m + 1 = m.succ from rfl]
  cases c with
  | nil =>
   refine Eq.trans (keeps_b0 F m X (L.g : Int) (L.a : Int) (L.f : Int) (L.p : Int) (L.s : Int) y l k t n0 (i : Int) K) ?_
   rw [branch_not (decide_eq_false (by omega))]; rfl
  | cons x c =>
   refine Eq.trans (keeps_b F m X (L.g : Int) (L.a : Int) (L.f : Int) (L.p : Int) (L.s : Int) y l (x :: c) k t n0 (i : Int) K) ?_
   rw [branch_not (decide_eq_false (by omega))]; rfl
 | d + 1, m + 1, i, X, L, lo, c, hi, hm, hH, hP, hb, hc, hcb => by
  have hi' : i < l.length := by omega
  have hlt := row_lt hl (List.getElem_mem hi')
  rw [show m + 1 = m.succ from rfl, keeps_rB F m hH y l c hl (by omega) (by omega) k t n0 i hi' K]
  rcases hH.app hlt with ⟨h1, h2, hls, hlow, hws⟩ | ⟨h1, h2, h3⟩
  ·have hP' : Pend (X.app L (nR (rwA l[i]))) n (2 + totalN lf) (totalN (lo ++ [(nR (rwA l[i]), 1 + totalN (lf ++ lo))])) := by
    rw [total_append] at hlow hws
    rw [total_append]
    exact hP.app hls (fun j hj => hlow j (by omega)) (by
     rw [hws]
     congr 1
     simp only [totalN]
     refine List.map_congr_left fun i _ => ?_
     rw [show 2 + (totalN lf + totalN lo) + i = 2 + totalN lf + totalN lo + i by omega])
   obtain ⟨X', L', lo', c', q1, q2, q3, q4, q5, q6⟩ := keeps_loopB F y l hl B hln k t n0 n lf K d m (i + 1) _ _ (lo ++ [(nR (rwA l[i]), 1 + totalN (lf ++ lo))]) (c ++ [l[i]]) (by omega) (by omega) (by rw [← List.append_assoc]; exact h2) hP' (by rw [bsR_snoc, hb]; simp) (by simp; omega) (fun r hr => by
    rcases List.mem_append.mp hr with hr | hr
    ·exact hcb r hr
    ·simp only [List.mem_singleton] at hr; subst hr; exact hl _ (List.getElem_mem hi'))
   exact ⟨X', L', lo', c', q1, q2, q3, q4, q5, by rw [if_pos h1]; exact q6⟩
  ·obtain ⟨X', L', lo', c', q1, q2, q3, q4, q5, q6⟩ := keeps_loopB F y l hl B hln k t n0 n lf K d m (i + 1) X L lo c (by omega) (by omega) hH hP hb (by omega) hcb
   exact ⟨X', L', lo', c', q1, q2, q3, q4, q5, by rw [if_neg h1, h2, h3]; exact q6⟩
theorem okBs_take {c : List (List AV)} (h : ∀ r ∈ c, isB r = true) (hl : c.length < 1000000) (n : Nat) : okBs (List.drop 0 (List.take n c)) = true := by
 rw [List.drop_zero, okBs_iff]
 exact ⟨fun r hr => h r (List.mem_of_mem_take hr), by rw [List.length_take]; omega⟩
theorem opR_ok {X : Dk} (h : X.Ok) (h2 : 2 ≤ X.n) : okBs (bsB X.opR) = true := by
 have hn := h.n1
 have hh : X.half = (X.n - 2) / 2 := rfl
 obtain ⟨a1, a2⟩ := recs_ok h X.half (opL0 X) X.newest.f (newest_ok h h2).1 (Nat.zero_le _)
 exact okBs_bsB a2 (by have : X.opR.length ≤ X.half := a1; omega)
theorem keeps_end (F : Nat) {X : Dk} {L : Lg} {n : Nat} {lf lo : List (List Nat × Nat)} (hH : Hist X L n (lf ++ lo)) (hP : Pend X n (2 + totalN lf) (totalN lo)) {c : List (List AV)} (hb : bsR c = (lf ++ lo).map (·.1)) (hc : c.length < 1000000) (hcb : ∀ r ∈ c, isB r = true) (k t : Int) (n0 : Nat) (hn0 : n0 = lf.length) :
  ∃ st, f3_r0.run F (f3.leaveK Fun.done) (Env.mk 127 [(2, .int .i64 k), (3, .int .i64 t), (9, .ptr 2 0), (12, allV c), (13, .int .i64 (n0 : Int))]) (recSt X L (allT c)) = some (.ret (.bool true), st) := by
 obtain ⟨hE, m, hm⟩ := keeps_plain hH hP k t
 have hw := hH.w; have hp := hH.p; have hsz := hH.sz; have hn1 := hH.ok.n1; have h10 := hH.n10
 have hh : X.half = (X.n - 2) / 2 := rfl
 have hok : (X.crash k t).Ok := hH.ok.settle (clip k X.ws.length).toNat (clip t 64).toNat
 have hX : X.crash k t = X.settle (clip k X.ws.length).toNat (clip t 64).toNat := rfl
 obtain ⟨o1, o2, o3, o4, o5⟩ := opO_eq (X.crash k t)
 have hws : (X.crash k t).ws.length = 0 := rfl
 have hopl : (X.crash k t).opR.length = lf.length + (lo.take m).length := by rw [hm]; simp
 have hcl : c.length = lf.length + lo.length := by rw [← bsR_length, hb]; simp
 have htl : (lo.take m).length ≤ lo.length := by rw [List.length_take]; omega
 have hbs := opR_ok (X := X.crash k t) hok (by show 2 ≤ X.n; omega)
 have eqv : (bsR (bsB (X.crash k t).opR) == bsR (List.drop 0 (List.take (X.crash k t).opR.length c))) = true := by
  rw [beq_iff_eq, bsR_bsB, List.drop_zero]
  have : bsR (List.take (X.crash k t).opR.length c) = (bsR c).take (X.crash k t).opR.length := by simp [bsR]
  rw [this, hb, List.map_append]
  have hpre : (X.crash k t).opR <+: lf.map (·.1) ++ lo.map (·.1) := by
   rw [hm, List.map_take]
   exact (List.prefix_append_right_inj _).mpr (List.take_prefix m _)
  exact List.prefix_iff_eq_take.mp hpre
 cases c with
 | nil =>
  have hc0 : lf.length + lo.length = 0 := hcl.symm
  refine ⟨⟨[dk0 (X.crash k t), dk1 (X.crash k t), dk2 0 (X.crash k t), dk3 (X.crash k t), lgO 0 L, lgO 0 (opL (X.crash k t))], []⟩, Eq.trans (keeps_out0 F X (L.g : Int) (L.a : Int) (L.f : Int) (L.p : Int) (L.s : Int) k t (n0 : Int) _) ?_⟩
  rw [gD hH.ok (by omega), onSome_some, crashO_eq, gD hok (by omega), onSome_some, branch_of (cdec_iff.mpr (by show (X.crash k t).ws.length < _; omega)), o1, hE, branch_of (by rfl), o5, opq_eq, opq_eq, bsB_length, branch_of (decide_eq_true (by omega)), branch_of (decide_eq_true (by omega)), if_pos ⟨by omega, by omega⟩, Int.toNat_natCast, branch_of (by rw [hbs, okBs_take hcb hc]; rfl), eqv, o3, lgO, lgT, (lv_eq L).1, (lv_eq L).2.1, (lv_eq L).2.2.1, (lv_eq L).2.2.2.1, (lv_eq L).2.2.2.2]
  rfl
 | cons x c =>
  refine ⟨⟨[dk0 (X.crash k t), dk1 (X.crash k t), dk2 0 (X.crash k t), dk3 (X.crash k t), lgO 0 L, lgO 0 (opL (X.crash k t))], [(1, (x :: c).length)]⟩, Eq.trans (keeps_out F X (L.g : Int) (L.a : Int) (L.f : Int) (L.p : Int) (L.s : Int) (x :: c) k t (n0 : Int) _) ?_⟩
  rw [gD hH.ok (by omega), onSome_some, crashO_eq, gD hok (by omega), onSome_some, branch_of (cdec_iff.mpr (by show (X.crash k t).ws.length < _; omega)), o1, hE, branch_of (by rfl), o5, opq_eq, opq_eq, bsB_length, branch_of (decide_eq_true (by omega)), branch_of (decide_eq_true (by omega)), if_pos ⟨by omega, by omega⟩, Int.toNat_natCast, branch_of (by rw [hbs, okBs_take hcb hc]; rfl), eqv, o3, lgO, lgT, (lv_eq L).1, (lv_eq L).2.1, (lv_eq L).2.2.1, (lv_eq L).2.2.2.1, (lv_eq L).2.2.2.2]
  rfl
theorem keeps_true (z y : Bool) (l b : List (List AV)) (hl : okBs l = true) (hb : okBs b = true) (k t : Int) : ∃ F st, f3.run F [.ns z 1 l, .ns y 1 b, .int .i64 k, .int .i64 t] ⟨[], []⟩ = some (.ret (.bool true), st) := by
 obtain ⟨F, hF⟩ : ∃ F : Nat, F = 1000000 := ⟨_, rfl⟩
 refine ⟨F, ?_⟩
 have key := keeps_run F z y l b k t
 obtain ⟨l1, _⟩ := okBs_iff.mp hl
 obtain ⟨b1, _⟩ := okBs_iff.mp hb
 rw [branch_of (by rw [hl]; rfl)] at key
 by_cases h1 : weighV l (5000 : Int) > (5000 : Int)
 ·rw [branch_of (decide_eq_true h1)] at key; exact ⟨_, key⟩
 ·rw [branch_not (decide_eq_false h1), branch_of (by rw [hb]; rfl)] at key
  by_cases h2 : weighV b (5000 : Int) > (5000 : Int)
  ·rw [branch_of (decide_eq_true h2)] at key; exact ⟨_, key⟩
  ·rw [branch_not (decide_eq_false h2)] at key
   obtain ⟨w1, _⟩ := weigh_len (x := 5000) (by decide) hl h1
   obtain ⟨w2, _⟩ := weigh_len (x := 5000) (by decide) hb h2
   have e0 : newO (300 : Int) = Dk.new 300 [] := newO_eq 300
   have hfr := fresh_hist (n := 300) (by decide) (by decide)
   obtain ⟨hE, _⟩ := new_small (n := 300) (by decide) (by decide)
   obtain ⟨f1, f2, f3', f4⟩ := fmtO_eq (Dk.new 300 [])
   obtain ⟨v0, v1, v2, v3, v4⟩ := lv_eq (fmtL (Dk.new 300 []))
   have hok := new_ok (n := 300) (img := []) (by decide) (by simp)
   have hws : (Dk.new 300 []).ws.length = 0 := rfl
   rw [e0, gD hok (by omega), onSome_some, branch_of (cdec_iff.mpr (by show (Dk.new 300 []).ws.length < _; omega)), f4, hE, branch_of (by rfl), f2, f3', v0, v1, v2, v3, v4] at key
   obtain ⟨X1, L1, lf, c1, q1, q2, q3, q4, q5⟩ := keeps_loopA F z y l b l1 (by omega) k t 300 (Cont.block 0 (Cont.then (f3_r1.run F (f3.leaveK Fun.done)) (f3.leaveK Fun.done))) l.length F 0 _ _ [] [] (by omega) (by omega) hfr rfl (Nat.le_refl _) (fun r hr => by cases hr)
   have key := key.trans q5
   have q2l : c1.length = lf.length := by rw [← bsR_length, q2]; simp
   have hw1 := q1.w; have hp1 := q1.p; have hsz1 := q1.sz
   have hh : X1.half = (X1.n - 2) / 2 := rfl
   have mid : f3_r1.run F (f3.leaveK Fun.done) (Env.mk 127 [(1, .ns y 1 b), (2, .int .i64 k), (3, .int .i64 t), (9, .ptr 2 0), (11, .ptr 4 0), (12, allV c1)]) (recSt X1 L1 (allT c1)) = loopRun (f3_l1.run F) [1, 2, 3, 9, 11, 12, 13, 15] (Cont.block 2 (Cont.then (f3_r0.run F (f3.leaveK Fun.done)) (f3.leaveK Fun.done))) F (envB y b c1 k t (lf.length : Int) 0) (recSt X1.flush L1 (allT c1)) := by
    obtain ⟨u0, u1, u2, u3, u4⟩ := lv_eq L1
    cases c1 with
    | nil =>
     refine Eq.trans (keeps_mid0 F X1 (L1.g : Int) (L1.a : Int) (L1.f : Int) (L1.p : Int) (L1.s : Int) y b k t _) ?_
     rw [gD q1.ok (by omega), onSome_some, lgG_cs, onSome_some, flushO_eq, u0, u1, u2, u3, u4, opq_eq, ← q2l]; rfl
    | cons x c1 =>
     refine Eq.trans (keeps_mid F X1 (L1.g : Int) (L1.a : Int) (L1.f : Int) (L1.p : Int) (L1.s : Int) y b (x :: c1) k t _) ?_
     rw [gD q1.ok (by omega), onSome_some, lgG_cs, onSome_some, flushO_eq, u0, u1, u2, u3, u4, opq_eq, ← q2l]; rfl
   have key := key.trans mid
   obtain ⟨X2, L2, lo, c2, s1, s2, s3, s4, s5, s6⟩ := keeps_loopB F y b b1 5000 (by omega) k t (lf.length : Int) 300 lf (Cont.block 2 (Cont.then (f3_r0.run F (f3.leaveK Fun.done)) (f3.leaveK Fun.done))) b.length F 0 X1.flush L1 [] c1 (by omega) (by omega) (by rw [List.append_nil]; exact q1.flush) (flush_pend q1) (by rw [List.append_nil]; exact q2) (by omega) q4
   have key := key.trans s6
   obtain ⟨st, hend⟩ := keeps_end F s1 s2 s3 (by omega) s5 k t lf.length rfl
   exact ⟨st, key.trans hend⟩
theorem keeps_lawT (as0 as1 as2 as3 : List AV) (s0 : Ty.Shape tyBs as0) (s1 : Ty.Shape tyBs as1) (s2 : Ty.Shape (.int .i64) as2) (s3 : Ty.Shape (.int .i64) as3) : ∃ F st, f3.run F [tyBs.AV' as0, tyBs.AV' as1, (Ty.int .i64).AV' as2, (Ty.int .i64).AV' as3] ⟨[], []⟩ = some (.ret (.bool true), st) := by
 obtain ⟨z, l, rfl, hl⟩ := bs_shape s0
 obtain ⟨y, b, rfl, hb⟩ := bs_shape s1
 obtain ⟨k, rfl, _⟩ := s2
 obtain ⟨t, rfl, _⟩ := s3
 exact keeps_true z y l b hl hb k t
end Go.Proofs.Ytnhdjhcpbjggmaa.V
