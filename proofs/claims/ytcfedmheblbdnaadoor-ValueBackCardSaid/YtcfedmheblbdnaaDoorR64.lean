/- Merged out of 36 texts: what the claim's code comes to, and why. -/
import Derived.Test.YtcfedmheblbdnaaDoorRows
import Derived.Test.YtcfedmheblbdnaaDoorR63
/- What the functions' runs come to; the right sides were printed by a tool, Lean checks them. -/
set_option linter.unusedVariables false
set_option maxRecDepth 100000
namespace Go.Proofs.YtcfedmheblbdnaaDoor.V
open Go Go.V Go.RowKit

theorem q_run (F : Nat) (s : ByteArray) :
 (f34.run F [.str s] ⟨[], []⟩ : Ans) =
 onSome (BdA.G 0 [Ob.cells [AV.nilptr, AV.nilsl], Ob.nov 0]) none fun (o : Bd) =>
 branch (AV.bool (true && (cdec ((0 : Int) ≤ (34 : Int) ∧ (34 : Int) < (256 : Int)) && o.fits 1)))
 (loopRun (f34_l0.run F) [0, 3, 8, 9]
 (Cont.block 0 (Cont.then (f34_r0.run F (f34.leaveK Fun.done)) (f34.leaveK Fun.done))) F
 (Env.mk 50
 [(0, AV.str s), (3, AV.tp 0 78 2),
 (8, AV.int IntKind.i64 (↑s.size : Int)), (9, AV.int IntKind.i64 (0 : Int))])
 (St.mk
 [BdA.ob 0 (o.put [Int.toNat (34 : Int)]) 0,
 BdA.ob 0 (o.put [Int.toNat (34 : Int)]) 1]
 []))
 none := by kernel_rfl

theorem q_round (F n : Nat) (K : Cont) (s : ByteArray) (m i : Int) (X : Bd) :
 (loopRun (f34_l0.run F) [0, 3, 8, 9] K n.succ (Env.mk 50 [(0, .str s), (3, .tp 0 78 2), (8, .int .i64 m), (9, .int .i64 i)]) ⟨[BdA.ob 0 X 0, BdA.ob 0 X 1], []⟩ : Ans) =
 branch (AV.bool (decide (i < m)))
 (branch (AV.bool (inT s i))
 (branch (AV.bool (decide (opq (atT s i) < (32 : Int))))
 (branch
 (AV.bool
 (inSl
 (ByteArray.mk
 #[(48 : UInt8), (49 : UInt8), (50 : UInt8), (51 : UInt8), (52 : UInt8), (53 : UInt8), (54 : UInt8),
 (55 : UInt8), (56 : UInt8), (57 : UInt8), (97 : UInt8), (98 : UInt8), (99 : UInt8), (100 : UInt8),
 (101 : UInt8), (102 : UInt8)])
 (opq ((opq (atT s i)).fdiv (16 : Int)))
 (opq (IntKind.u8.wrap (opq ((opq (atT s i)).fdiv (16 : Int)) + (1 : Int))))))
 (branch
 (AV.bool
 (catOk (ByteArray.mk #[(92 : UInt8)])
 (subT
 (ByteArray.mk
 #[(48 : UInt8), (49 : UInt8), (50 : UInt8), (51 : UInt8), (52 : UInt8), (53 : UInt8), (54 : UInt8),
 (55 : UInt8), (56 : UInt8), (57 : UInt8), (97 : UInt8), (98 : UInt8), (99 : UInt8), (100 : UInt8),
 (101 : UInt8), (102 : UInt8)])
 (opq ((opq (atT s i)).fdiv (16 : Int)))
 (opq (IntKind.u8.wrap (opq ((opq (atT s i)).fdiv (16 : Int)) + (1 : Int)))))))
 (branch
 (AV.bool
 (inSl
 (ByteArray.mk
 #[(48 : UInt8), (49 : UInt8), (50 : UInt8), (51 : UInt8), (52 : UInt8), (53 : UInt8), (54 : UInt8),
 (55 : UInt8), (56 : UInt8), (57 : UInt8), (97 : UInt8), (98 : UInt8), (99 : UInt8), (100 : UInt8),
 (101 : UInt8), (102 : UInt8)])
 (opq (bitsI BinOp.and IntKind.u8 (opq (atT s i)) (15 : Int)))
 (opq (IntKind.u8.wrap (opq (bitsI BinOp.and IntKind.u8 (opq (atT s i)) (15 : Int)) + (1 : Int))))))
 (branch
 (AV.bool
 (catOk
 (catT (ByteArray.mk #[(92 : UInt8)])
 (subT
 (ByteArray.mk
 #[(48 : UInt8), (49 : UInt8), (50 : UInt8), (51 : UInt8), (52 : UInt8), (53 : UInt8),
 (54 : UInt8), (55 : UInt8), (56 : UInt8), (57 : UInt8), (97 : UInt8), (98 : UInt8),
 (99 : UInt8), (100 : UInt8), (101 : UInt8), (102 : UInt8)])
 (opq ((opq (atT s i)).fdiv (16 : Int)))
 (opq (IntKind.u8.wrap (opq ((opq (atT s i)).fdiv (16 : Int)) + (1 : Int))))))
 (subT
 (ByteArray.mk
 #[(48 : UInt8), (49 : UInt8), (50 : UInt8), (51 : UInt8), (52 : UInt8), (53 : UInt8),
 (54 : UInt8), (55 : UInt8), (56 : UInt8), (57 : UInt8), (97 : UInt8), (98 : UInt8),
 (99 : UInt8), (100 : UInt8), (101 : UInt8), (102 : UInt8)])
 (opq (bitsI BinOp.and IntKind.u8 (opq (atT s i)) (15 : Int)))
 (opq (IntKind.u8.wrap (opq (bitsI BinOp.and IntKind.u8 (opq (atT s i)) (15 : Int)) + (1 : Int)))))))
 (onSome (BdA.G 0 [BdA.ob 0 X 0, BdA.ob 0 X 1]) none
 fun (o : Bd) =>
 branch
 (AV.bool
 (o.fits
 (strL
 (catT
 (catT (ByteArray.mk #[(92 : UInt8)])
 (subT
 (ByteArray.mk
 #[(48 : UInt8), (49 : UInt8), (50 : UInt8), (51 : UInt8), (52 : UInt8), (53 : UInt8),
 (54 : UInt8), (55 : UInt8), (56 : UInt8), (57 : UInt8), (97 : UInt8), (98 : UInt8),
 (99 : UInt8), (100 : UInt8), (101 : UInt8), (102 : UInt8)])
 (opq ((opq (atT s i)).fdiv (16 : Int)))
 (opq (IntKind.u8.wrap (opq ((opq (atT s i)).fdiv (16 : Int)) + (1 : Int))))))
 (subT
 (ByteArray.mk
 #[(48 : UInt8), (49 : UInt8), (50 : UInt8), (51 : UInt8), (52 : UInt8), (53 : UInt8),
 (54 : UInt8), (55 : UInt8), (56 : UInt8), (57 : UInt8), (97 : UInt8), (98 : UInt8),
 (99 : UInt8), (100 : UInt8), (101 : UInt8), (102 : UInt8)])
 (opq (bitsI BinOp.and IntKind.u8 (opq (atT s i)) (15 : Int)))
 (opq
 (IntKind.u8.wrap
 (opq (bitsI BinOp.and IntKind.u8 (opq (atT s i)) (15 : Int)) +
 (1 : Int))))))).length))
 (loopRun (f34_l0.run F) [0, 3, 8, 9] K n
 (Env.mk 50
 [(0, AV.str s), (3, AV.tp 0 78 2),
 (8, AV.int IntKind.i64 m),
 (9, AV.int IntKind.i64 (IntKind.i64.wrap (i + (1 : Int))))])
 (St.mk
 [BdA.ob 0
 (o.put
 (strL
 (catT
 (catT (ByteArray.mk #[(92 : UInt8)])
 (subT
 (ByteArray.mk
 #[(48 : UInt8), (49 : UInt8), (50 : UInt8), (51 : UInt8), (52 : UInt8),
 (53 : UInt8), (54 : UInt8), (55 : UInt8), (56 : UInt8), (57 : UInt8),
 (97 : UInt8), (98 : UInt8), (99 : UInt8), (100 : UInt8), (101 : UInt8),
 (102 : UInt8)])
 (opq ((opq (atT s i)).fdiv ((2 : Int) ^ min (Int.toNat (4 : Int)) IntKind.u8.bits)))
 (opq
 (IntKind.u8.wrap
 (opq
 ((opq (atT s i)).fdiv
 ((2 : Int) ^ min (Int.toNat (4 : Int)) IntKind.u8.bits)) +
 (1 : Int))))))
 (subT
 (ByteArray.mk
 #[(48 : UInt8), (49 : UInt8), (50 : UInt8), (51 : UInt8), (52 : UInt8),
 (53 : UInt8), (54 : UInt8), (55 : UInt8), (56 : UInt8), (57 : UInt8),
 (97 : UInt8), (98 : UInt8), (99 : UInt8), (100 : UInt8), (101 : UInt8),
 (102 : UInt8)])
 (opq (bitsI BinOp.and IntKind.u8 (opq (atT s i)) (15 : Int)))
 (opq
 (IntKind.u8.wrap
 (opq (bitsI BinOp.and IntKind.u8 (opq (atT s i)) (15 : Int)) + (1 : Int))))))))
 0,
 BdA.ob 0
 (o.put
 (strL
 (catT
 (catT (ByteArray.mk #[(92 : UInt8)])
 (subT
 (ByteArray.mk
 #[(48 : UInt8), (49 : UInt8), (50 : UInt8), (51 : UInt8), (52 : UInt8),
 (53 : UInt8), (54 : UInt8), (55 : UInt8), (56 : UInt8), (57 : UInt8),
 (97 : UInt8), (98 : UInt8), (99 : UInt8), (100 : UInt8), (101 : UInt8),
 (102 : UInt8)])
 (opq ((opq (atT s i)).fdiv ((2 : Int) ^ min (Int.toNat (4 : Int)) IntKind.u8.bits)))
 (opq
 (IntKind.u8.wrap
 (opq
 ((opq (atT s i)).fdiv
 ((2 : Int) ^ min (Int.toNat (4 : Int)) IntKind.u8.bits)) +
 (1 : Int))))))
 (subT
 (ByteArray.mk
 #[(48 : UInt8), (49 : UInt8), (50 : UInt8), (51 : UInt8), (52 : UInt8),
 (53 : UInt8), (54 : UInt8), (55 : UInt8), (56 : UInt8), (57 : UInt8),
 (97 : UInt8), (98 : UInt8), (99 : UInt8), (100 : UInt8), (101 : UInt8),
 (102 : UInt8)])
 (opq (bitsI BinOp.and IntKind.u8 (opq (atT s i)) (15 : Int)))
 (opq
 (IntKind.u8.wrap
 (opq (bitsI BinOp.and IntKind.u8 (opq (atT s i)) (15 : Int)) + (1 : Int))))))))
 1]
 []))
 none)
 none)
 none)
 none)
 none)
 (branch (AV.bool (decide (opq (atT s i) > (126 : Int))))
 (branch
 (AV.bool
 (inSl
 (ByteArray.mk
 #[(48 : UInt8), (49 : UInt8), (50 : UInt8), (51 : UInt8), (52 : UInt8), (53 : UInt8), (54 : UInt8),
 (55 : UInt8), (56 : UInt8), (57 : UInt8), (97 : UInt8), (98 : UInt8), (99 : UInt8), (100 : UInt8),
 (101 : UInt8), (102 : UInt8)])
 (opq ((opq (atT s i)).fdiv (16 : Int)))
 (opq (IntKind.u8.wrap (opq ((opq (atT s i)).fdiv (16 : Int)) + (1 : Int))))))
 (branch
 (AV.bool
 (catOk (ByteArray.mk #[(92 : UInt8)])
 (subT
 (ByteArray.mk
 #[(48 : UInt8), (49 : UInt8), (50 : UInt8), (51 : UInt8), (52 : UInt8), (53 : UInt8), (54 : UInt8),
 (55 : UInt8), (56 : UInt8), (57 : UInt8), (97 : UInt8), (98 : UInt8), (99 : UInt8), (100 : UInt8),
 (101 : UInt8), (102 : UInt8)])
 (opq ((opq (atT s i)).fdiv (16 : Int)))
 (opq (IntKind.u8.wrap (opq ((opq (atT s i)).fdiv (16 : Int)) + (1 : Int)))))))
 (branch
 (AV.bool
 (inSl
 (ByteArray.mk
 #[(48 : UInt8), (49 : UInt8), (50 : UInt8), (51 : UInt8), (52 : UInt8), (53 : UInt8), (54 : UInt8),
 (55 : UInt8), (56 : UInt8), (57 : UInt8), (97 : UInt8), (98 : UInt8), (99 : UInt8), (100 : UInt8),
 (101 : UInt8), (102 : UInt8)])
 (opq (bitsI BinOp.and IntKind.u8 (opq (atT s i)) (15 : Int)))
 (opq (IntKind.u8.wrap (opq (bitsI BinOp.and IntKind.u8 (opq (atT s i)) (15 : Int)) + (1 : Int))))))
 (branch
 (AV.bool
 (catOk
 (catT (ByteArray.mk #[(92 : UInt8)])
 (subT
 (ByteArray.mk
 #[(48 : UInt8), (49 : UInt8), (50 : UInt8), (51 : UInt8), (52 : UInt8), (53 : UInt8),
 (54 : UInt8), (55 : UInt8), (56 : UInt8), (57 : UInt8), (97 : UInt8), (98 : UInt8),
 (99 : UInt8), (100 : UInt8), (101 : UInt8), (102 : UInt8)])
 (opq ((opq (atT s i)).fdiv (16 : Int)))
 (opq (IntKind.u8.wrap (opq ((opq (atT s i)).fdiv (16 : Int)) + (1 : Int))))))
 (subT
 (ByteArray.mk
 #[(48 : UInt8), (49 : UInt8), (50 : UInt8), (51 : UInt8), (52 : UInt8), (53 : UInt8),
 (54 : UInt8), (55 : UInt8), (56 : UInt8), (57 : UInt8), (97 : UInt8), (98 : UInt8),
 (99 : UInt8), (100 : UInt8), (101 : UInt8), (102 : UInt8)])
 (opq (bitsI BinOp.and IntKind.u8 (opq (atT s i)) (15 : Int)))
 (opq
 (IntKind.u8.wrap (opq (bitsI BinOp.and IntKind.u8 (opq (atT s i)) (15 : Int)) + (1 : Int)))))))
 (onSome (BdA.G 0 [BdA.ob 0 X 0, BdA.ob 0 X 1]) none
 fun (o : Bd) =>
 branch
 (AV.bool
 (o.fits
 (strL
 (catT
 (catT (ByteArray.mk #[(92 : UInt8)])
 (subT
 (ByteArray.mk
 #[(48 : UInt8), (49 : UInt8), (50 : UInt8), (51 : UInt8), (52 : UInt8),
 (53 : UInt8), (54 : UInt8), (55 : UInt8), (56 : UInt8), (57 : UInt8),
 (97 : UInt8), (98 : UInt8), (99 : UInt8), (100 : UInt8), (101 : UInt8),
 (102 : UInt8)])
 (opq ((opq (atT s i)).fdiv (16 : Int)))
 (opq (IntKind.u8.wrap (opq ((opq (atT s i)).fdiv (16 : Int)) + (1 : Int))))))
 (subT
 (ByteArray.mk
 #[(48 : UInt8), (49 : UInt8), (50 : UInt8), (51 : UInt8), (52 : UInt8), (53 : UInt8),
 (54 : UInt8), (55 : UInt8), (56 : UInt8), (57 : UInt8), (97 : UInt8), (98 : UInt8),
 (99 : UInt8), (100 : UInt8), (101 : UInt8), (102 : UInt8)])
 (opq (bitsI BinOp.and IntKind.u8 (opq (atT s i)) (15 : Int)))
 (opq
 (IntKind.u8.wrap
 (opq (bitsI BinOp.and IntKind.u8 (opq (atT s i)) (15 : Int)) +
 (1 : Int))))))).length))
 (loopRun (f34_l0.run F) [0, 3, 8, 9] K n
 (Env.mk 50
 [(0, AV.str s), (3, AV.tp 0 78 2),
 (8, AV.int IntKind.i64 m),
 (9, AV.int IntKind.i64 (IntKind.i64.wrap (i + (1 : Int))))])
 (St.mk
 [BdA.ob 0
 (o.put
 (strL
 (catT
 (catT (ByteArray.mk #[(92 : UInt8)])
 (subT
 (ByteArray.mk
 #[(48 : UInt8), (49 : UInt8), (50 : UInt8), (51 : UInt8), (52 : UInt8),
 (53 : UInt8), (54 : UInt8), (55 : UInt8), (56 : UInt8), (57 : UInt8),
 (97 : UInt8), (98 : UInt8), (99 : UInt8), (100 : UInt8), (101 : UInt8),
 (102 : UInt8)])
 (opq
 ((opq (atT s i)).fdiv ((2 : Int) ^ min (Int.toNat (4 : Int)) IntKind.u8.bits)))
 (opq
 (IntKind.u8.wrap
 (opq
 ((opq (atT s i)).fdiv
 ((2 : Int) ^ min (Int.toNat (4 : Int)) IntKind.u8.bits)) +
 (1 : Int))))))
 (subT
 (ByteArray.mk
 #[(48 : UInt8), (49 : UInt8), (50 : UInt8), (51 : UInt8), (52 : UInt8),
 (53 : UInt8), (54 : UInt8), (55 : UInt8), (56 : UInt8), (57 : UInt8),
 (97 : UInt8), (98 : UInt8), (99 : UInt8), (100 : UInt8), (101 : UInt8),
 (102 : UInt8)])
 (opq (bitsI BinOp.and IntKind.u8 (opq (atT s i)) (15 : Int)))
 (opq
 (IntKind.u8.wrap
 (opq (bitsI BinOp.and IntKind.u8 (opq (atT s i)) (15 : Int)) + (1 : Int))))))))
 0,
 BdA.ob 0
 (o.put
 (strL
 (catT
 (catT (ByteArray.mk #[(92 : UInt8)])
 (subT
 (ByteArray.mk
 #[(48 : UInt8), (49 : UInt8), (50 : UInt8), (51 : UInt8), (52 : UInt8),
 (53 : UInt8), (54 : UInt8), (55 : UInt8), (56 : UInt8), (57 : UInt8),
 (97 : UInt8), (98 : UInt8), (99 : UInt8), (100 : UInt8), (101 : UInt8),
 (102 : UInt8)])
 (opq
 ((opq (atT s i)).fdiv ((2 : Int) ^ min (Int.toNat (4 : Int)) IntKind.u8.bits)))
 (opq
 (IntKind.u8.wrap
 (opq
 ((opq (atT s i)).fdiv
 ((2 : Int) ^ min (Int.toNat (4 : Int)) IntKind.u8.bits)) +
 (1 : Int))))))
 (subT
 (ByteArray.mk
 #[(48 : UInt8), (49 : UInt8), (50 : UInt8), (51 : UInt8), (52 : UInt8),
 (53 : UInt8), (54 : UInt8), (55 : UInt8), (56 : UInt8), (57 : UInt8),
 (97 : UInt8), (98 : UInt8), (99 : UInt8), (100 : UInt8), (101 : UInt8),
 (102 : UInt8)])
 (opq (bitsI BinOp.and IntKind.u8 (opq (atT s i)) (15 : Int)))
 (opq
 (IntKind.u8.wrap
 (opq (bitsI BinOp.and IntKind.u8 (opq (atT s i)) (15 : Int)) + (1 : Int))))))))
 1]
 []))
 none)
 none)
 none)
 none)
 none)
 (branch (AV.bool (opq (atT s i) == (34 : Int)))
 (branch
 (AV.bool
 (inSl
 (ByteArray.mk
 #[(48 : UInt8), (49 : UInt8), (50 : UInt8), (51 : UInt8), (52 : UInt8), (53 : UInt8), (54 : UInt8),
 (55 : UInt8), (56 : UInt8), (57 : UInt8), (97 : UInt8), (98 : UInt8), (99 : UInt8), (100 : UInt8),
 (101 : UInt8), (102 : UInt8)])
 (opq ((opq (atT s i)).fdiv (16 : Int)))
 (opq (IntKind.u8.wrap (opq ((opq (atT s i)).fdiv (16 : Int)) + (1 : Int))))))
 (branch
 (AV.bool
 (catOk (ByteArray.mk #[(92 : UInt8)])
 (subT
 (ByteArray.mk
 #[(48 : UInt8), (49 : UInt8), (50 : UInt8), (51 : UInt8), (52 : UInt8), (53 : UInt8),
 (54 : UInt8), (55 : UInt8), (56 : UInt8), (57 : UInt8), (97 : UInt8), (98 : UInt8),
 (99 : UInt8), (100 : UInt8), (101 : UInt8), (102 : UInt8)])
 (opq ((opq (atT s i)).fdiv (16 : Int)))
 (opq (IntKind.u8.wrap (opq ((opq (atT s i)).fdiv (16 : Int)) + (1 : Int)))))))
 (branch
 (AV.bool
 (inSl
 (ByteArray.mk
 #[(48 : UInt8), (49 : UInt8), (50 : UInt8), (51 : UInt8), (52 : UInt8), (53 : UInt8),
 (54 : UInt8), (55 : UInt8), (56 : UInt8), (57 : UInt8), (97 : UInt8), (98 : UInt8),
 (99 : UInt8), (100 : UInt8), (101 : UInt8), (102 : UInt8)])
 (opq (bitsI BinOp.and IntKind.u8 (opq (atT s i)) (15 : Int)))
 (opq (IntKind.u8.wrap (opq (bitsI BinOp.and IntKind.u8 (opq (atT s i)) (15 : Int)) + (1 : Int))))))
 (branch
 (AV.bool
 (catOk
 (catT (ByteArray.mk #[(92 : UInt8)])
 (subT
 (ByteArray.mk
 #[(48 : UInt8), (49 : UInt8), (50 : UInt8), (51 : UInt8), (52 : UInt8), (53 : UInt8),
 (54 : UInt8), (55 : UInt8), (56 : UInt8), (57 : UInt8), (97 : UInt8), (98 : UInt8),
 (99 : UInt8), (100 : UInt8), (101 : UInt8), (102 : UInt8)])
 (opq ((opq (atT s i)).fdiv (16 : Int)))
 (opq (IntKind.u8.wrap (opq ((opq (atT s i)).fdiv (16 : Int)) + (1 : Int))))))
 (subT
 (ByteArray.mk
 #[(48 : UInt8), (49 : UInt8), (50 : UInt8), (51 : UInt8), (52 : UInt8), (53 : UInt8),
 (54 : UInt8), (55 : UInt8), (56 : UInt8), (57 : UInt8), (97 : UInt8), (98 : UInt8),
 (99 : UInt8), (100 : UInt8), (101 : UInt8), (102 : UInt8)])
 (opq (bitsI BinOp.and IntKind.u8 (opq (atT s i)) (15 : Int)))
 (opq
 (IntKind.u8.wrap
 (opq (bitsI BinOp.and IntKind.u8 (opq (atT s i)) (15 : Int)) + (1 : Int)))))))
 (onSome (BdA.G 0 [BdA.ob 0 X 0, BdA.ob 0 X 1]) none
 fun (o : Bd) =>
 branch
 (AV.bool
 (o.fits
 (strL
 (catT
 (catT (ByteArray.mk #[(92 : UInt8)])
 (subT
 (ByteArray.mk
 #[(48 : UInt8), (49 : UInt8), (50 : UInt8), (51 : UInt8), (52 : UInt8),
 (53 : UInt8), (54 : UInt8), (55 : UInt8), (56 : UInt8), (57 : UInt8),
 (97 : UInt8), (98 : UInt8), (99 : UInt8), (100 : UInt8), (101 : UInt8),
 (102 : UInt8)])
 (opq ((opq (atT s i)).fdiv (16 : Int)))
 (opq (IntKind.u8.wrap (opq ((opq (atT s i)).fdiv (16 : Int)) + (1 : Int))))))
 (subT
 (ByteArray.mk
 #[(48 : UInt8), (49 : UInt8), (50 : UInt8), (51 : UInt8), (52 : UInt8),
 (53 : UInt8), (54 : UInt8), (55 : UInt8), (56 : UInt8), (57 : UInt8),
 (97 : UInt8), (98 : UInt8), (99 : UInt8), (100 : UInt8), (101 : UInt8),
 (102 : UInt8)])
 (opq (bitsI BinOp.and IntKind.u8 (opq (atT s i)) (15 : Int)))
 (opq
 (IntKind.u8.wrap
 (opq (bitsI BinOp.and IntKind.u8 (opq (atT s i)) (15 : Int)) +
 (1 : Int))))))).length))
 (loopRun (f34_l0.run F) [0, 3, 8, 9] K n
 (Env.mk 50
 [(0, AV.str s), (3, AV.tp 0 78 2),
 (8, AV.int IntKind.i64 m),
 (9, AV.int IntKind.i64 (IntKind.i64.wrap (i + (1 : Int))))])
 (St.mk
 [BdA.ob 0
 (o.put
 (strL
 (catT
 (catT (ByteArray.mk #[(92 : UInt8)])
 (subT
 (ByteArray.mk
 #[(48 : UInt8), (49 : UInt8), (50 : UInt8), (51 : UInt8), (52 : UInt8),
 (53 : UInt8), (54 : UInt8), (55 : UInt8), (56 : UInt8), (57 : UInt8),
 (97 : UInt8), (98 : UInt8), (99 : UInt8), (100 : UInt8), (101 : UInt8),
 (102 : UInt8)])
 (opq
 ((opq (atT s i)).fdiv
 ((2 : Int) ^ min (Int.toNat (4 : Int)) IntKind.u8.bits)))
 (opq
 (IntKind.u8.wrap
 (opq
 ((opq (atT s i)).fdiv
 ((2 : Int) ^ min (Int.toNat (4 : Int)) IntKind.u8.bits)) +
 (1 : Int))))))
 (subT
 (ByteArray.mk
 #[(48 : UInt8), (49 : UInt8), (50 : UInt8), (51 : UInt8), (52 : UInt8),
 (53 : UInt8), (54 : UInt8), (55 : UInt8), (56 : UInt8), (57 : UInt8),
 (97 : UInt8), (98 : UInt8), (99 : UInt8), (100 : UInt8), (101 : UInt8),
 (102 : UInt8)])
 (opq (bitsI BinOp.and IntKind.u8 (opq (atT s i)) (15 : Int)))
 (opq
 (IntKind.u8.wrap
 (opq (bitsI BinOp.and IntKind.u8 (opq (atT s i)) (15 : Int)) +
 (1 : Int))))))))
 0,
 BdA.ob 0
 (o.put
 (strL
 (catT
 (catT (ByteArray.mk #[(92 : UInt8)])
 (subT
 (ByteArray.mk
 #[(48 : UInt8), (49 : UInt8), (50 : UInt8), (51 : UInt8), (52 : UInt8),
 (53 : UInt8), (54 : UInt8), (55 : UInt8), (56 : UInt8), (57 : UInt8),
 (97 : UInt8), (98 : UInt8), (99 : UInt8), (100 : UInt8), (101 : UInt8),
 (102 : UInt8)])
 (opq
 ((opq (atT s i)).fdiv
 ((2 : Int) ^ min (Int.toNat (4 : Int)) IntKind.u8.bits)))
 (opq
 (IntKind.u8.wrap
 (opq
 ((opq (atT s i)).fdiv
 ((2 : Int) ^ min (Int.toNat (4 : Int)) IntKind.u8.bits)) +
 (1 : Int))))))
 (subT
 (ByteArray.mk
 #[(48 : UInt8), (49 : UInt8), (50 : UInt8), (51 : UInt8), (52 : UInt8),
 (53 : UInt8), (54 : UInt8), (55 : UInt8), (56 : UInt8), (57 : UInt8),
 (97 : UInt8), (98 : UInt8), (99 : UInt8), (100 : UInt8), (101 : UInt8),
 (102 : UInt8)])
 (opq (bitsI BinOp.and IntKind.u8 (opq (atT s i)) (15 : Int)))
 (opq
 (IntKind.u8.wrap
 (opq (bitsI BinOp.and IntKind.u8 (opq (atT s i)) (15 : Int)) +
 (1 : Int))))))))
 1]
 []))
 none)
 none)
 none)
 none)
 none)
 (branch (AV.bool (opq (atT s i) == (92 : Int)))
 (branch
 (AV.bool
 (inSl
 (ByteArray.mk
 #[(48 : UInt8), (49 : UInt8), (50 : UInt8), (51 : UInt8), (52 : UInt8), (53 : UInt8), (54 : UInt8),
 (55 : UInt8), (56 : UInt8), (57 : UInt8), (97 : UInt8), (98 : UInt8), (99 : UInt8), (100 : UInt8),
 (101 : UInt8), (102 : UInt8)])
 (opq ((opq (atT s i)).fdiv (16 : Int)))
 (opq (IntKind.u8.wrap (opq ((opq (atT s i)).fdiv (16 : Int)) + (1 : Int))))))
 (branch
 (AV.bool
 (catOk (ByteArray.mk #[(92 : UInt8)])
 (subT
 (ByteArray.mk
 #[(48 : UInt8), (49 : UInt8), (50 : UInt8), (51 : UInt8), (52 : UInt8), (53 : UInt8),
 (54 : UInt8), (55 : UInt8), (56 : UInt8), (57 : UInt8), (97 : UInt8), (98 : UInt8),
 (99 : UInt8), (100 : UInt8), (101 : UInt8), (102 : UInt8)])
 (opq ((opq (atT s i)).fdiv (16 : Int)))
 (opq (IntKind.u8.wrap (opq ((opq (atT s i)).fdiv (16 : Int)) + (1 : Int)))))))
 (branch
 (AV.bool
 (inSl
 (ByteArray.mk
 #[(48 : UInt8), (49 : UInt8), (50 : UInt8), (51 : UInt8), (52 : UInt8), (53 : UInt8),
 (54 : UInt8), (55 : UInt8), (56 : UInt8), (57 : UInt8), (97 : UInt8), (98 : UInt8),
 (99 : UInt8), (100 : UInt8), (101 : UInt8), (102 : UInt8)])
 (opq (bitsI BinOp.and IntKind.u8 (opq (atT s i)) (15 : Int)))
 (opq
 (IntKind.u8.wrap (opq (bitsI BinOp.and IntKind.u8 (opq (atT s i)) (15 : Int)) + (1 : Int))))))
 (branch
 (AV.bool
 (catOk
 (catT (ByteArray.mk #[(92 : UInt8)])
 (subT
 (ByteArray.mk
 #[(48 : UInt8), (49 : UInt8), (50 : UInt8), (51 : UInt8), (52 : UInt8), (53 : UInt8),
 (54 : UInt8), (55 : UInt8), (56 : UInt8), (57 : UInt8), (97 : UInt8), (98 : UInt8),
 (99 : UInt8), (100 : UInt8), (101 : UInt8), (102 : UInt8)])
 (opq ((opq (atT s i)).fdiv (16 : Int)))
 (opq (IntKind.u8.wrap (opq ((opq (atT s i)).fdiv (16 : Int)) + (1 : Int))))))
 (subT
 (ByteArray.mk
 #[(48 : UInt8), (49 : UInt8), (50 : UInt8), (51 : UInt8), (52 : UInt8), (53 : UInt8),
 (54 : UInt8), (55 : UInt8), (56 : UInt8), (57 : UInt8), (97 : UInt8), (98 : UInt8),
 (99 : UInt8), (100 : UInt8), (101 : UInt8), (102 : UInt8)])
 (opq (bitsI BinOp.and IntKind.u8 (opq (atT s i)) (15 : Int)))
 (opq
 (IntKind.u8.wrap
 (opq (bitsI BinOp.and IntKind.u8 (opq (atT s i)) (15 : Int)) + (1 : Int)))))))
 (onSome (BdA.G 0 [BdA.ob 0 X 0, BdA.ob 0 X 1]) none
 fun (o : Bd) =>
 branch
 (AV.bool
 (o.fits
 (strL
 (catT
 (catT (ByteArray.mk #[(92 : UInt8)])
 (subT
 (ByteArray.mk
 #[(48 : UInt8), (49 : UInt8), (50 : UInt8), (51 : UInt8), (52 : UInt8),
 (53 : UInt8), (54 : UInt8), (55 : UInt8), (56 : UInt8), (57 : UInt8),
 (97 : UInt8), (98 : UInt8), (99 : UInt8), (100 : UInt8), (101 : UInt8),
 (102 : UInt8)])
 (opq ((opq (atT s i)).fdiv (16 : Int)))
 (opq (IntKind.u8.wrap (opq ((opq (atT s i)).fdiv (16 : Int)) + (1 : Int))))))
 (subT
 (ByteArray.mk
 #[(48 : UInt8), (49 : UInt8), (50 : UInt8), (51 : UInt8), (52 : UInt8),
 (53 : UInt8), (54 : UInt8), (55 : UInt8), (56 : UInt8), (57 : UInt8),
 (97 : UInt8), (98 : UInt8), (99 : UInt8), (100 : UInt8), (101 : UInt8),
 (102 : UInt8)])
 (opq (bitsI BinOp.and IntKind.u8 (opq (atT s i)) (15 : Int)))
 (opq
 (IntKind.u8.wrap
 (opq (bitsI BinOp.and IntKind.u8 (opq (atT s i)) (15 : Int)) +
 (1 : Int))))))).length))
 (loopRun (f34_l0.run F) [0, 3, 8, 9] K n
 (Env.mk 50
 [(0, AV.str s), (3, AV.tp 0 78 2),
 (8, AV.int IntKind.i64 m),
 (9, AV.int IntKind.i64 (IntKind.i64.wrap (i + (1 : Int))))])
 (St.mk
 [BdA.ob 0
 (o.put
 (strL
 (catT
 (catT (ByteArray.mk #[(92 : UInt8)])
 (subT
 (ByteArray.mk
 #[(48 : UInt8), (49 : UInt8), (50 : UInt8), (51 : UInt8), (52 : UInt8),
 (53 : UInt8), (54 : UInt8), (55 : UInt8), (56 : UInt8), (57 : UInt8),
 (97 : UInt8), (98 : UInt8), (99 : UInt8), (100 : UInt8), (101 : UInt8),
 (102 : UInt8)])
 (opq
 ((opq (atT s i)).fdiv
 ((2 : Int) ^ min (Int.toNat (4 : Int)) IntKind.u8.bits)))
 (opq
 (IntKind.u8.wrap
 (opq
 ((opq (atT s i)).fdiv
 ((2 : Int) ^ min (Int.toNat (4 : Int)) IntKind.u8.bits)) +
 (1 : Int))))))
 (subT
 (ByteArray.mk
 #[(48 : UInt8), (49 : UInt8), (50 : UInt8), (51 : UInt8), (52 : UInt8),
 (53 : UInt8), (54 : UInt8), (55 : UInt8), (56 : UInt8), (57 : UInt8),
 (97 : UInt8), (98 : UInt8), (99 : UInt8), (100 : UInt8), (101 : UInt8),
 (102 : UInt8)])
 (opq (bitsI BinOp.and IntKind.u8 (opq (atT s i)) (15 : Int)))
 (opq
 (IntKind.u8.wrap
 (opq (bitsI BinOp.and IntKind.u8 (opq (atT s i)) (15 : Int)) +
 (1 : Int))))))))
 0,
 BdA.ob 0
 (o.put
 (strL
 (catT
 (catT (ByteArray.mk #[(92 : UInt8)])
 (subT
 (ByteArray.mk
 #[(48 : UInt8), (49 : UInt8), (50 : UInt8), (51 : UInt8), (52 : UInt8),
 (53 : UInt8), (54 : UInt8), (55 : UInt8), (56 : UInt8), (57 : UInt8),
 (97 : UInt8), (98 : UInt8), (99 : UInt8), (100 : UInt8), (101 : UInt8),
 (102 : UInt8)])
 (opq
 ((opq (atT s i)).fdiv
 ((2 : Int) ^ min (Int.toNat (4 : Int)) IntKind.u8.bits)))
 (opq
 (IntKind.u8.wrap
 (opq
 ((opq (atT s i)).fdiv
 ((2 : Int) ^ min (Int.toNat (4 : Int)) IntKind.u8.bits)) +
 (1 : Int))))))
 (subT
 (ByteArray.mk
 #[(48 : UInt8), (49 : UInt8), (50 : UInt8), (51 : UInt8), (52 : UInt8),
 (53 : UInt8), (54 : UInt8), (55 : UInt8), (56 : UInt8), (57 : UInt8),
 (97 : UInt8), (98 : UInt8), (99 : UInt8), (100 : UInt8), (101 : UInt8),
 (102 : UInt8)])
 (opq (bitsI BinOp.and IntKind.u8 (opq (atT s i)) (15 : Int)))
 (opq
 (IntKind.u8.wrap
 (opq (bitsI BinOp.and IntKind.u8 (opq (atT s i)) (15 : Int)) +
 (1 : Int))))))))
 1]
 []))
 none)
 none)
 none)
 none)
 none)
 (onSome (BdA.G 0 [BdA.ob 0 X 0, BdA.ob 0 X 1]) none fun (o : Bd) =>
 branch
 (AV.bool (true && (cdec ((0 : Int) ≤ opq (atT s i) ∧ opq (atT s i) < (256 : Int)) && o.fits 1)))
 (loopRun (f34_l0.run F) [0, 3, 8, 9] K n
 (Env.mk 50
 [(0, AV.str s), (3, AV.tp 0 78 2),
 (8, AV.int IntKind.i64 m),
 (9, AV.int IntKind.i64 (IntKind.i64.wrap (i + (1 : Int))))])
 (St.mk
 [BdA.ob 0 (o.put [(opq (atT s i)).toNat]) 0,
 BdA.ob 0 (o.put [(opq (atT s i)).toNat]) 1]
 []))
 none)))))
 none)
 (K (AX.exit 0) (Env.mk 50 [(3, AV.tp 0 78 2)])
 (St.mk [BdA.ob 0 X 0, BdA.ob 0 X 1] [])) := by kernel_rfl

theorem q_out (F : Nat) (X : Bd) :
 ((Cont.block 0 (Cont.then (f34_r0.run F (f34.leaveK Fun.done)) (f34.leaveK Fun.done))) (.exit 0) (Env.mk 50 [(3, .tp 0 78 2)]) ⟨[BdA.ob 0 X 0, BdA.ob 0 X 1], []⟩ : Ans) =
 onSome (BdA.G 0 [BdA.ob 0 X 0, BdA.ob 0 X 1]) none fun (o : Bd) =>
 branch (AV.bool (o.fits 0))
 (branch (AV.bool (catOk (strB o.bytes) (ByteArray.mk #[(34 : UInt8)])))
 (some
 (Fin.ret (AV.str (catT (strB o.bytes) (ByteArray.mk #[(34 : UInt8)]))),
 St.mk [BdA.ob 0 o.out 0, BdA.ob 0 o.out 1] []))
 none)
 none := by kernel_rfl

theorem u_run (F : Nat) (s : ByteArray) :
 (f52.run F [.str s] ⟨[], []⟩ : Ans) =
 loopRun (f52_l0.run F) [0, 4]
 (Cont.block 0 (Cont.then (f52_r0.run F (f52.leaveK Fun.done)) (f52.leaveK Fun.done))) F
 (Env.mk 44 [(0, AV.str s), (4, AV.tp 0 78 2)])
 (St.mk [Ob.cells [AV.nilptr, AV.nilsl], Ob.nov 0] []) := by kernel_rfl

theorem u_round (F n : Nat) (K : Cont) (s : ByteArray) (X : Bd) :
 (loopRun (f52_l0.run F) [0, 4] K n.succ (Env.mk 44 [(0, .str s), (4, .tp 0 78 2)]) ⟨[BdA.ob 0 X 0, BdA.ob 0 X 1], []⟩ : Ans) =
 branch (AV.bool (decide ((↑s.size : Int) > (0 : Int))))
 (branch (AV.bool (inT s (0 : Int)))
 (branch (AV.bool (inSl s (1 : Int) (↑s.size : Int)))
 (branch (AV.bool (opq (atT s (0 : Int)) == (92 : Int)))
 (branch (AV.bool (decide ((↑(subT s (1 : Int) (↑s.size : Int)).size : Int) < (2 : Int))))
 (K AX.ret (Env.mk 44 [(2, AV.str (ByteArray.mk #[])), (3, AV.bool false)])
 (St.mk [BdA.ob 0 X 0, BdA.ob 0 X 1] []))
 (branch (AV.bool (inT (subT s (1 : Int) (↑s.size : Int)) (0 : Int)))
 (branch
 (AV.bool
 (cdec
 ((0 : Int) ≤ opq (atT (subT s (1 : Int) (↑s.size : Int)) (0 : Int)) ∧
 opq (atT (subT s (1 : Int) (↑s.size : Int)) (0 : Int)) < (256 : Int))))
 (branch (AV.bool (decide (digO (opq (atT (subT s (1 : Int) (↑s.size : Int)) (0 : Int))) < (0 : Int))))
 (K AX.ret (Env.mk 44 [(2, AV.str (ByteArray.mk #[])), (3, AV.bool false)])
 (St.mk [BdA.ob 0 X 0, BdA.ob 0 X 1] []))
 (branch (AV.bool (inT (subT s (1 : Int) (↑s.size : Int)) (1 : Int)))
 (branch
 (AV.bool
 (cdec
 ((0 : Int) ≤ opq (atT (subT s (1 : Int) (↑s.size : Int)) (1 : Int)) ∧
 opq (atT (subT s (1 : Int) (↑s.size : Int)) (1 : Int)) < (256 : Int))))
 (branch
 (AV.bool (decide (digO (opq (atT (subT s (1 : Int) (↑s.size : Int)) (1 : Int))) < (0 : Int))))
 (K AX.ret (Env.mk 44 [(2, AV.str (ByteArray.mk #[])), (3, AV.bool false)])
 (St.mk [BdA.ob 0 X 0, BdA.ob 0 X 1] []))
 (branch (AV.bool (inT (subT s (1 : Int) (↑s.size : Int)) (0 : Int)))
 (branch
 (AV.bool
 (cdec
 ((0 : Int) ≤ opq (atT (subT s (1 : Int) (↑s.size : Int)) (0 : Int)) ∧
 opq (atT (subT s (1 : Int) (↑s.size : Int)) (0 : Int)) < (256 : Int))))
 (branch (AV.bool (inT (subT s (1 : Int) (↑s.size : Int)) (1 : Int)))
 (branch
 (AV.bool
 (cdec
 ((0 : Int) ≤ opq (atT (subT s (1 : Int) (↑s.size : Int)) (1 : Int)) ∧
 opq (atT (subT s (1 : Int) (↑s.size : Int)) (1 : Int)) < (256 : Int))))
 (branch
 (AV.bool
 (inSl (subT s (1 : Int) (↑s.size : Int)) (2 : Int)
 (↑(subT s (1 : Int) (↑s.size : Int)).size : Int)))
 (onSome (BdA.G 0 [BdA.ob 0 X 0, BdA.ob 0 X 1])
 none fun (o : Bd) =>
 branch
 (AV.bool
 (true &&
 (cdec
 ((0 : Int) ≤
 opq
 (IntKind.u8.wrap
 (opq
 (bitsI BinOp.or IntKind.i64
 (opq
 (IntKind.i64.wrap
 (digO
 (opq
 (atT (subT s (1 : Int) (↑s.size : Int)) (0 : Int))) *
 (16 : Int))))
 (digO
 (opq (atT (subT s (1 : Int) (↑s.size : Int)) (1 : Int))))))) ∧
 opq
 (IntKind.u8.wrap
 (opq
 (bitsI BinOp.or IntKind.i64
 (opq
 (IntKind.i64.wrap
 (digO
 (opq
 (atT (subT s (1 : Int) (↑s.size : Int)) (0 : Int))) *
 (16 : Int))))
 (digO
 (opq (atT (subT s (1 : Int) (↑s.size : Int)) (1 : Int))))))) <
 (256 : Int)) &&
 o.fits 1)))
 (loopRun (f52_l0.run F) [0, 4] K n
 (Env.mk 44
 [(0,
 AV.str
 (subT (subT s (1 : Int) (↑s.size : Int)) (2 : Int)
 (↑(subT s (1 : Int) (↑s.size : Int)).size : Int))),
 (4, AV.tp 0 78 2)])
 (St.mk
 [BdA.ob 0
 (o.put
 [(opq
 (IntKind.u8.wrap
 (opq
 (bitsI BinOp.or IntKind.i64
 (opq
 (IntKind.i64.wrap
 (digO
 (opq
 (atT (subT s (1 : Int) (↑s.size : Int))
 (0 : Int))) *
 (2 : Int) ^
 min (Int.toNat (4 : Int)) IntKind.i64.bits)))
 (digO
 (opq
 (atT (subT s (1 : Int) (↑s.size : Int))
 (1 : Int)))))))).toNat])
 0,
 BdA.ob 0
 (o.put
 [(opq
 (IntKind.u8.wrap
 (opq
 (bitsI BinOp.or IntKind.i64
 (opq
 (IntKind.i64.wrap
 (digO
 (opq
 (atT (subT s (1 : Int) (↑s.size : Int))
 (0 : Int))) *
 (2 : Int) ^
 min (Int.toNat (4 : Int)) IntKind.i64.bits)))
 (digO
 (opq
 (atT (subT s (1 : Int) (↑s.size : Int))
 (1 : Int)))))))).toNat])
 1]
 []))
 none)
 none)
 none)
 none)
 none)
 none))
 none)
 none))
 none)
 none))
 (onSome (BdA.G 0 [BdA.ob 0 X 0, BdA.ob 0 X 1]) none fun (o : Bd) =>
 branch
 (AV.bool
 (true &&
 (cdec ((0 : Int) ≤ opq (atT s (0 : Int)) ∧ opq (atT s (0 : Int)) < (256 : Int)) && o.fits 1)))
 (loopRun (f52_l0.run F) [0, 4] K n
 (Env.mk 44
 [(0, AV.str (subT s (1 : Int) (↑s.size : Int))),
 (4, AV.tp 0 78 2)])
 (St.mk
 [BdA.ob 0 (o.put [(opq (atT s (0 : Int))).toNat]) 0,
 BdA.ob 0 (o.put [(opq (atT s (0 : Int))).toNat]) 1]
 []))
 none))
 none)
 none)
 (K (AX.exit 0) (Env.mk 44 [(4, AV.tp 0 78 2)])
 (St.mk [BdA.ob 0 X 0, BdA.ob 0 X 1] [])) := by kernel_rfl

theorem u_out (F : Nat) (X : Bd) :
 ((Cont.block 0 (Cont.then (f52_r0.run F (f52.leaveK Fun.done)) (f52.leaveK Fun.done))) (.exit 0) (Env.mk 44 [(4, .tp 0 78 2)]) ⟨[BdA.ob 0 X 0, BdA.ob 0 X 1], []⟩ : Ans) =
 onSome (BdA.G 0 [BdA.ob 0 X 0, BdA.ob 0 X 1]) none fun (o : Bd) =>
 branch (AV.bool (o.fits 0))
 (some
 (Fin.ret (AV.tup [AV.str (strB o.bytes), AV.bool true]),
 St.mk [BdA.ob 0 o.out 0, BdA.ob 0 o.out 1] []))
 none := by kernel_rfl

theorem u_ret (F : Nat) (X : Bd) :
 ((Cont.block 0 (Cont.then (f52_r0.run F (f52.leaveK Fun.done)) (f52.leaveK Fun.done))) .ret (Env.mk 44 [(2, AV.str (ByteArray.mk #[])), (3, AV.bool false)]) ⟨[BdA.ob 0 X 0, BdA.ob 0 X 1], []⟩ : Ans) =
 some
 (Fin.ret (AV.tup [AV.str (ByteArray.mk #[]), AV.bool false]),
 St.mk [BdA.ob 0 X 0, BdA.ob 0 X 1] []) := by kernel_rfl

end Go.Proofs.YtcfedmheblbdnaaDoor.V

/- Values: a text in quotes. -/
set_option linter.unusedVariables false
namespace Go.Proofs.YtcfedmheblbdnaaDoor.V
open Go Go.V Go.RowKit

def hexD (n : Nat) : Nat := bif Nat.blt n 10 then 48 + n else 87 + n
def escB (x : Nat) : Bool := Nat.blt x 32 || (Nat.blt 126 x || (Nat.beq x 34 || Nat.beq x 92))
def encQ (x : Nat) : List Nat := bif escB x then [92, hexD (x / 16), hexD (x % 16)] else [x]
def qtL (l : List Nat) : List Nat := 34 :: (l.flatMap encQ ++ [34])
theorem encQ_len (x : Nat) : (encQ x).length ≤ 3 := by unfold encQ; cases escB x <;> simp
theorem flat_encQ_len : ∀ l : List Nat, (l.flatMap encQ).length ≤ 3 * l.length
  | [] => by simp
  | x :: l => by
    have := encQ_len x
    have := flat_encQ_len l
    simp only [List.flatMap_cons, List.length_append, List.length_cons]; omega
theorem hexD_lt {n : Nat} (h : n < 16) : hexD n < 256 := by unfold hexD; cases Nat.blt n 10 <;> simp <;> omega
theorem encQ_lt {x : Nat} (h : x < 256) : ∀ y ∈ encQ x, y < 256 := by
  intro y hy
  unfold encQ at hy
  cases hb : escB x <;> rw [hb] at hy <;> simp at hy
  · omega
  · rcases hy with rfl | rfl | rfl
    · omega
    · exact hexD_lt (by omega)
    · exact hexD_lt (by omega)
theorem fD_all : (List.range 256).all (fun x => decide ((x : Int).fdiv 16 = ((x / 16 : Nat) : Int)) && (decide (IntKind.u8.wrap (((x / 16 : Nat) : Int) + 1) = ((x / 16 + 1 : Nat) : Int)) && (decide (bitsI .and .u8 (x : Int) 15 = ((x % 16 : Nat) : Int)) && decide (IntKind.u8.wrap (((x % 16 : Nat) : Int) + 1) = ((x % 16 + 1 : Nat) : Int))))) = true := by kernel_rfl
theorem fD {x : Nat} (h : x < 256) : (x : Int).fdiv 16 = ((x / 16 : Nat) : Int) ∧ IntKind.u8.wrap (((x / 16 : Nat) : Int) + 1) = ((x / 16 + 1 : Nat) : Int) ∧ bitsI .and .u8 (x : Int) 15 = ((x % 16 : Nat) : Int) ∧ IntKind.u8.wrap (((x % 16 : Nat) : Int) + 1) = ((x % 16 + 1 : Nat) : Int) := by
  have := List.all_eq_true.mp fD_all x (List.mem_range.mpr h)
  simpa only [Bool.and_eq_true, decide_eq_true_eq] using this
theorem hexL : strL hexB = [48, 49, 50, 51, 52, 53, 54, 55, 56, 57, 97, 98, 99, 100, 101, 102] := by kernel_rfl
def bsB : ByteArray := ⟨#[92]⟩
theorem bsL : strL bsB = [92] := by kernel_rfl
theorem hex_at : (List.range 16).all (fun n => decide ((([48, 49, 50, 51, 52, 53, 54, 55, 56, 57, 97, 98, 99, 100, 101, 102] : List Nat).take (n + 1)).drop n = [hexD n])) = true := by kernel_rfl
theorem hex_sub {n : Nat} (h : n < 16) : strL (subT hexB (n : Int) ((n + 1 : Nat) : Int)) = [hexD n] := by
  rw [subT_list, hexL, Int.toNat_natCast, Int.toNat_natCast]
  have := List.all_eq_true.mp hex_at n (List.mem_range.mpr h)
  exact of_decide_eq_true this
theorem hex_in {n : Nat} (h : n < 16) : inSl hexB (n : Int) ((n + 1 : Nat) : Int) = true := by
  rw [inSl_iff, hexL]; simp; omega
/-- What a byte that is told by two digits looks like. -/
noncomputable def escT (x : Nat) : ByteArray := catT (catT bsB (subT hexB ((x / 16 : Nat) : Int) ((x / 16 + 1 : Nat) : Int))) (subT hexB ((x % 16 : Nat) : Int) ((x % 16 + 1 : Nat) : Int))
theorem escT_list {x : Nat} (h : x < 256) : strL (escT x) = [92, hexD (x / 16), hexD (x % 16)] := by
  rw [escT, catT_list, catT_list, bsL, hex_sub (by omega), hex_sub (by omega)]; rfl
theorem cat_ok1 {x : Nat} (h : x < 256) : catOk bsB (subT hexB ((x / 16 : Nat) : Int) ((x / 16 + 1 : Nat) : Int)) = true := by
  rw [catOk, cdec_iff, bsL, hex_sub (by omega)]; simp
theorem cat_ok2 {x : Nat} (h : x < 256) : catOk (catT bsB (subT hexB ((x / 16 : Nat) : Int) ((x / 16 + 1 : Nat) : Int))) (subT hexB ((x % 16 : Nat) : Int) ((x % 16 + 1 : Nat) : Int)) = true := by
  rw [catOk, cdec_iff, catT_list, bsL, hex_sub (by omega), hex_sub (by omega)]; simp
theorem bd_G {X : Bd} (h : X.Ok) : BdA.G 0 [BdA.ob 0 X 0, BdA.ob 0 X 1] = some X := ADT.G_obl BdA (x := X) h 0
theorem bd_G0 : BdA.G 0 [Ob.cells [AV.nilptr, AV.nilsl], Ob.nov 0] = some (.fresh 0) := by
  have h : (Bd.fresh 0).Ok := trivial
  have := ADT.G_obl BdA (x := .fresh 0) h 0
  rw [ADT.obl_zero BdA (x := .fresh 0) h] at this
  exact this
theorem obl0 {X : Bd} (h : X.Ok) : [BdA.ob 0 X 0, BdA.ob 0 X 1] = X.obs := ADT.obl_zero BdA (x := X) h
theorem onSome_some {α : Type} (x : α) (n : Ans) (f : α → Ans) : onSome (some x) n f = f x := rfl
theorem br_t (y n : Ans) : branch (.bool true) y n = y := rfl
theorem br_f (y n : Ans) : branch (.bool false) y n = n := rfl
theorem int_wrap {i : Nat} (h : i < 1000000000) : IntKind.i64.wrap ((i : Int) + 1) = ((i + 1 : Nat) : Int) := wrap_succ (by omega)

theorem q_loop (F : Nat) (K : Cont) (s : ByteArray) (hs : (strL s).length ≤ 100000000) : ∀ (r n i : Nat) (X : Bd), i + r = (strL s).length → r < n → X.Ok → X.live = true → X.bytes.length + 3 * r ≤ 900000000 →
    ∃ Y : Bd, Y.Ok ∧ Y.live = true ∧ Y.bytes = X.bytes ++ ((strL s).drop i).flatMap encQ ∧
      loopRun (f34_l0.run F) [0, 3, 8, 9] K n (Env.mk 50 [(0, .str s), (3, .tp 0 78 2), (8, .int .i64 (s.size : Int)), (9, .int .i64 (i : Int))]) ⟨[BdA.ob 0 X 0, BdA.ob 0 X 1], []⟩ = K (.exit 0) (Env.mk 50 [(3, .tp 0 78 2)]) ⟨[BdA.ob 0 Y 0, BdA.ob 0 Y 1], []⟩
  | 0, n + 1, i, X, hi, _, ho, hl, hb => by
    refine ⟨X, ho, hl, by rw [List.drop_eq_nil_of_le (by omega)]; simp, ?_⟩
    rw [q_round, strL_size, show decide ((i : Int) < (((strL s).length : Nat) : Int)) = false by simp; omega]
    rfl
  | r + 1, n + 1, i, X, hi, hn, ho, hl, hb => by
    have hil : i < (strL s).length := by omega
    obtain ⟨x, hx⟩ : ∃ x, x = (strL s)[i] := ⟨_, rfl⟩
    have hx256 : x < 256 := strL_lt s x (by rw [hx]; exact List.getElem_mem _)
    have hat : opq (atT s (i : Int)) = (x : Int) := by
      rw [opq_eq, atT, opq_eq, Int.toNat_natCast, List.getD_eq_getElem?_getD, List.getElem?_eq_getElem hil, hx]; rfl
    have hdrop : ((strL s).drop i).flatMap encQ = encQ x ++ ((strL s).drop (i + 1)).flatMap encQ := by
      rw [List.drop_eq_getElem_cons hil, List.flatMap_cons, hx]
    obtain ⟨d1, d2, d3, d4⟩ := fD hx256
    have e1 : opq ((x : Int).fdiv 16) = ((x / 16 : Nat) : Int) := by rw [opq_eq, d1]
    have e1' : opq ((x : Int).fdiv ((2 : Int) ^ min (Int.toNat (4 : Int)) IntKind.u8.bits)) = ((x / 16 : Nat) : Int) := e1
    have e2 : opq (IntKind.u8.wrap (((x / 16 : Nat) : Int) + 1)) = ((x / 16 + 1 : Nat) : Int) := by rw [opq_eq, d2]
    have e3 : opq (bitsI BinOp.and IntKind.u8 (x : Int) 15) = ((x % 16 : Nat) : Int) := by rw [opq_eq, d3]
    have e4 : opq (IntKind.u8.wrap (((x % 16 : Nat) : Int) + 1)) = ((x % 16 + 1 : Nat) : Int) := by rw [opq_eq, d4]
    have hw := int_wrap (i := i) (by omega)
    have fit : X.fits (strL (escT x)).length = true := by rw [Bd.fits_iff, escT_list hx256]; simp only [List.length_cons, List.length_nil]; exact ⟨hl, by omega⟩
    have fit1 : X.fits 1 = true := by rw [Bd.fits_iff]; exact ⟨hl, by omega⟩
    have hc : cdec ((0 : Int) ≤ (x : Int) ∧ (x : Int) < (256 : Int)) = true := by rw [cdec_iff]; omega
    have hin : inT s (i : Int) = true := by rw [inT_iff, Int.toNat_natCast]; exact ⟨by omega, hil⟩
    have hlt : decide ((i : Int) < (((strL s).length : Nat) : Int)) = true := by simp; omega
    have next : ∀ Z : Bd, Z = X.put (encQ x) → ∃ Y : Bd, Y.Ok ∧ Y.live = true ∧ Y.bytes = X.bytes ++ ((strL s).drop i).flatMap encQ ∧
        loopRun (f34_l0.run F) [0, 3, 8, 9] K n (Env.mk 50 [(0, .str s), (3, .tp 0 78 2), (8, .int .i64 (s.size : Int)), (9, .int .i64 ((i + 1 : Nat) : Int))]) ⟨[BdA.ob 0 Z 0, BdA.ob 0 Z 1], []⟩ = K (.exit 0) (Env.mk 50 [(3, .tp 0 78 2)]) ⟨[BdA.ob 0 Y 0, BdA.ob 0 Y 1], []⟩ := by
      intro Z hZ
      obtain ⟨z1, z2⟩ := Bd.put_bytes hl (encQ x)
      rw [← hZ] at z1 z2
      have := encQ_len x
      obtain ⟨Y, y1, y2, y3, y4⟩ := q_loop F K s hs r n (i + 1) Z (by omega) (by omega) (by rw [hZ]; exact ho.put (encQ_lt hx256)) z2 (by rw [z1, List.length_append]; omega)
      exact ⟨Y, y1, y2, by rw [y3, z1, hdrop, List.append_assoc], y4⟩
    by_cases he : escB x = true
    · have hq : encQ x = [92, hexD (x / 16), hexD (x % 16)] := by rw [encQ, he]; rfl
      obtain ⟨Y, y1, y2, y3, y4⟩ := next (X.put (strL (escT x))) (by rw [escT_list hx256, hq])
      refine ⟨Y, y1, y2, y3, ?_⟩
      rw [← y4, q_round, strL_size, hlt, br_t, hin, br_t, hat]
      change _ = _ at e1
      have h1 : inSl hexB ((x / 16 : Nat) : Int) ((x / 16 + 1 : Nat) : Int) = true := hex_in (by omega)
      have h2 : inSl hexB ((x % 16 : Nat) : Int) ((x % 16 + 1 : Nat) : Int) = true := hex_in (by omega)
      have h3 := cat_ok1 hx256
      have h4 := cat_ok2 hx256
      rw [show (ByteArray.mk #[(48 : UInt8), (49 : UInt8), (50 : UInt8), (51 : UInt8), (52 : UInt8), (53 : UInt8), (54 : UInt8), (55 : UInt8), (56 : UInt8), (57 : UInt8), (97 : UInt8), (98 : UInt8), (99 : UInt8), (100 : UInt8), (101 : UInt8), (102 : UInt8)]) = hexB from rfl, show (ByteArray.mk #[(92 : UInt8)]) = bsB from rfl]
      rw [e1, e1', e2, e3, e4, h1, h2, h3, h4, bd_G ho]
      simp only [br_t, onSome_some]
      rw [show catT (catT bsB (subT hexB ((x / 16 : Nat) : Int) ((x / 16 + 1 : Nat) : Int))) (subT hexB ((x % 16 : Nat) : Int) ((x % 16 + 1 : Nat) : Int)) = escT x from rfl, fit, hw]
      simp only [br_t]
      have hcase : ∀ {A B : Ans}, (branch (AV.bool (decide ((x : Int) < 32))) A (branch (AV.bool (decide ((x : Int) > 126))) A (branch (AV.bool ((x : Int) == 34)) A (branch (AV.bool ((x : Int) == 92)) A B)))) = A := by
        intro A B
        simp only [escB, Bool.or_eq_true, Nat.blt_eq, Nat.beq_eq] at he
        by_cases g1 : x < 32
        · rw [show decide ((x : Int) < 32) = true by simp; omega]; rfl
        · rw [show decide ((x : Int) < 32) = false by simp; omega, br_f]
          by_cases g2 : 126 < x
          · rw [show decide ((x : Int) > 126) = true by simp; omega]; rfl
          · rw [show decide ((x : Int) > 126) = false by simp; omega, br_f]
            by_cases g3 : x = 34
            · subst g3; rfl
            · rw [show ((x : Int) == 34) = false by simp; omega, br_f]
              have g4 : x = 92 := by omega
              subst g4; rfl
      rw [hcase]
    · have he : escB x = false := by simpa using he
      have hq : encQ x = [x] := by rw [encQ, he]; rfl
      obtain ⟨Y, y1, y2, y3, y4⟩ := next (X.put [x]) (by rw [hq])
      refine ⟨Y, y1, y2, y3, ?_⟩
      simp only [escB, Bool.or_eq_false_iff] at he
      obtain ⟨g1, g2, g3, g4⟩ := he
      have g1 : ¬ x < 32 := by intro h; rw [Nat.blt_eq.mpr h] at g1; cases g1
      have g2 : ¬ 126 < x := by intro h; rw [Nat.blt_eq.mpr h] at g2; cases g2
      have g3 : x ≠ 34 := by intro h; subst h; cases g3
      have g4 : x ≠ 92 := by intro h; subst h; cases g4
      rw [← y4, q_round, strL_size, hlt, br_t, hin, br_t, hat, show decide ((x : Int) < 32) = false by simp; omega, br_f, show decide ((x : Int) > 126) = false by simp; omega, br_f, show ((x : Int) == 34) = false by simp; omega, br_f, show ((x : Int) == 92) = false by simp; omega, br_f, bd_G ho, onSome_some, hc, fit1, hw, Int.toNat_natCast]
      rfl

theorem q_can {s : ByteArray} (hs : (strL s).length ≤ 100000000) : ∃ st', f34.run 100000001 [.str s] ⟨[], []⟩ = some (.ret (.str (strB (qtL (strL s)))), st') := by
  have h0 : ((Bd.fresh 0).put [Int.toNat 34]).Ok := Bd.Ok.put (X := .fresh 0) trivial (by intro x hx; simp at hx; omega)
  obtain ⟨Y, y1, y2, y3, y4⟩ := q_loop 100000001 (Cont.block 0 (Cont.then (f34_r0.run 100000001 (f34.leaveK Fun.done)) (f34.leaveK Fun.done))) s hs (strL s).length 100000001 0 ((Bd.fresh 0).put [Int.toNat 34]) (by omega) (by omega) h0 rfl (by show 1 + _ ≤ _; omega)
  have hlen := flat_encQ_len (strL s)
  rw [List.drop_zero] at y3
  have hyb : Y.bytes = 34 :: (strL s).flatMap encQ := y3
  have hyl : Y.bytes.length ≤ 300000001 := by rw [hyb, List.length_cons]; omega
  have q34 : strL (⟨#[34]⟩ : ByteArray) = [34] := by kernel_rfl
  have hbb : ∀ b ∈ Y.bytes, b < 256 := by
    cases Y with
    | has v l => exact y1.2
    | _ => intro b hb; cases hb
  refine ⟨⟨[BdA.ob 0 Y.out 0, BdA.ob 0 Y.out 1], []⟩, ?_⟩
  rw [q_run, bd_G0, onSome_some, show (true && (cdec ((0 : Int) ≤ (34 : Int) ∧ (34 : Int) < (256 : Int)) && (Bd.fresh 0).fits 1)) = true by
    rw [show cdec ((0 : Int) ≤ (34 : Int) ∧ (34 : Int) < (256 : Int)) = true by rw [cdec_iff]; omega, show (Bd.fresh 0).fits 1 = true by rw [Bd.fits_iff]; exact ⟨rfl, by show 0 + 1 < _; omega⟩]; rfl, br_t]
  refine Eq.trans y4 ?_
  rw [q_out, bd_G y1, onSome_some, show Y.fits 0 = true by rw [Bd.fits_iff]; exact ⟨y2, by omega⟩, br_t, show catOk (strB Y.bytes) (ByteArray.mk #[34]) = true by rw [catOk, cdec_iff, strL_strB hbb, q34, List.length_singleton]; omega, br_t]
  have : catT (strB Y.bytes) (ByteArray.mk #[34]) = strB (qtL (strL s)) := by
    have e : strL (catT (strB Y.bytes) (ByteArray.mk #[34])) = qtL (strL s) := by rw [catT_list, strL_strB hbb, q34, hyb]; rfl
    rw [← e, strB_strL]
  rw [this]
end Go.Proofs.YtcfedmheblbdnaaDoor.V

/- Values: what stands between quotes. -/
set_option linter.unusedVariables false
namespace Go.Proofs.YtcfedmheblbdnaaDoor.V
open Go Go.V Go.RowKit

def negI (i : Int) : Bool := decide (i < 0)
def unqF : Nat → List Nat → Option (List Nat)
  | 0, _ => none
  | n + 1, l => match l with
    | [] => some []
    | c :: s => bif Nat.beq c 92 then match s with
        | a :: b :: s' => bif negI (digH a) || negI (digH b) then none else (unqF n s').map fun r => (digH a * 16 + digH b).toNat :: r
        | _ => none
      else (unqF n s).map fun r => c :: r
theorem digH_or {a : Nat} : digH a < 0 ∨ ∃ u : Nat, u < 16 ∧ digH a = (u : Int) := by
  unfold digH
  cases h1 : Nat.ble 48 a && Nat.ble a 57
  · cases h2 : Nat.ble 97 a && Nat.ble a 102
    · exact .inl (by simp)
    · simp only [Bool.and_eq_true, Nat.ble_eq] at h2
      exact .inr ⟨a - 87, by omega, by simp; omega⟩
  · simp only [Bool.and_eq_true, Nat.ble_eq] at h1
    exact .inr ⟨a - 48, by omega, by simp; omega⟩
theorem or_all : (List.range 16).all (fun u => (List.range 16).all fun v => decide (IntKind.u8.wrap (bitsI .or .i64 (IntKind.i64.wrap ((u : Int) * 16)) (v : Int)) = ((u * 16 + v : Nat) : Int))) = true := by kernel_rfl
theorem or_eq {u v : Nat} (hu : u < 16) (hv : v < 16) : IntKind.u8.wrap (bitsI .or .i64 (IntKind.i64.wrap ((u : Int) * 16)) (v : Int)) = ((u * 16 + v : Nat) : Int) := by
  have h1 := List.all_eq_true.mp or_all u (List.mem_range.mpr hu)
  have h2 := List.all_eq_true.mp h1 v (List.mem_range.mpr hv)
  exact of_decide_eq_true h2
theorem at_eq {s : ByteArray} {i : Nat} {l : List Nat} {x : Nat} (h : strL s = l) (hx : l[i]? = some x) : opq (atT s (i : Int)) = (x : Int) ∧ inT s (i : Int) = true ∧ x < 256 := by
  subst h
  have hlt : i < (strL s).length := by
    rcases Nat.lt_or_ge i (strL s).length with h | h
    · exact h
    · rw [List.getElem?_eq_none h] at hx; cases hx
  refine ⟨?_, by rw [inT_iff, Int.toNat_natCast]; exact ⟨by omega, hlt⟩, strL_lt s x (List.mem_of_getElem? hx)⟩
  rw [opq_eq, atT, opq_eq, Int.toNat_natCast, List.getD_eq_getElem?_getD, hx]; rfl
theorem sub_end (s : ByteArray) (i : Nat) : strL (subT s (i : Int) (s.size : Int)) = (strL s).drop i := by
  rw [subT_list, Int.toNat_natCast, Int.toNat_natCast, strL_size, List.take_length]
theorem in_end {s : ByteArray} {i : Nat} (h : i ≤ (strL s).length) : inSl s (i : Int) (s.size : Int) = true := by rw [inSl_iff, strL_size]; omega

theorem u_loop (F : Nat) (K : Cont) : ∀ (n : Nat) (s : ByteArray) (X : Bd), (strL s).length < n → X.Ok → X.live = true → X.bytes.length + (strL s).length ≤ 900000000 →
    (∀ r, unqF n (strL s) = some r → (∀ x ∈ r, x < 256) ∧ r.length ≤ (strL s).length ∧ ∃ Y : Bd, Y.Ok ∧ Y.live = true ∧ Y.bytes = X.bytes ++ r ∧ loopRun (f52_l0.run F) [0, 4] K n (Env.mk 44 [(0, .str s), (4, .tp 0 78 2)]) ⟨[BdA.ob 0 X 0, BdA.ob 0 X 1], []⟩ = K (.exit 0) (Env.mk 44 [(4, .tp 0 78 2)]) ⟨[BdA.ob 0 Y 0, BdA.ob 0 Y 1], []⟩) ∧
    (unqF n (strL s) = none → ∃ Y : Bd, loopRun (f52_l0.run F) [0, 4] K n (Env.mk 44 [(0, .str s), (4, .tp 0 78 2)]) ⟨[BdA.ob 0 X 0, BdA.ob 0 X 1], []⟩ = K .ret (Env.mk 44 [(2, AV.str (ByteArray.mk #[])), (3, AV.bool false)]) ⟨[BdA.ob 0 Y 0, BdA.ob 0 Y 1], []⟩)
  | 0, s, X, hn, _, _, _ => absurd hn (Nat.not_lt_zero _)
  | n + 1, s, X, hn, ho, hl, hb => by
    rw [u_round]
    cases hs : strL s with
    | nil =>
      have h0 : decide ((s.size : Int) > 0) = false := by rw [strL_size, hs]; rfl
      rw [h0, br_f]
      refine ⟨fun r hr => ?_, fun hr => by cases hr⟩
      cases hr
      exact ⟨by simp, by simp, X, ho, hl, by simp, rfl⟩
    | cons c l =>
      have h0 : decide ((s.size : Int) > 0) = true := by rw [strL_size, hs]; simp
      obtain ⟨a1, a2, a3⟩ := at_eq (i := 0) (x := c) hs rfl
      have i1 : inSl s 1 (s.size : Int) = true := in_end (i := 1) (by rw [hs]; simp)
      have a1 : opq (atT s 0) = (c : Int) := a1
      have a2 : inT s 0 = true := a2
      have e1 : strL (subT s 1 (s.size : Int)) = l := by
        have := sub_end s 1
        rw [hs] at this
        exact this
      rw [h0, br_t, a2, br_t, i1, br_t, a1]
      have fit1 : X.fits 1 = true := by rw [Bd.fits_iff]; rw [hs] at hb; simp at hb; exact ⟨hl, by omega⟩
      by_cases hc : c = 92
      · subst hc
        rw [show (((92 : Nat) : Int) == 92) = true from rfl, br_t]
        generalize hs1 : subT s 1 (s.size : Int) = s1 at e1
        rw [hs] at hn hb
        match l, e1, hn, hb with
        | [], e1, hn, hb =>
          rw [show decide ((s1.size : Int) < 2) = true by rw [strL_size, e1]; rfl, br_t]
          exact ⟨fun r hr => (by cases hr), fun _ => ⟨X, rfl⟩⟩
        | [a], e1, hn, hb =>
          rw [show decide ((s1.size : Int) < 2) = true by rw [strL_size, e1]; rfl, br_t]
          exact ⟨fun r hr => (by cases hr), fun _ => ⟨X, rfl⟩⟩
        | a :: b :: l', e1, hn, hb =>
          obtain ⟨b1, b2, b3⟩ := at_eq (i := 0) (x := a) e1 rfl
          obtain ⟨c1, c2, c3⟩ := at_eq (i := 1) (x := b) e1 rfl
          have b1 : opq (atT s1 0) = (a : Int) := b1
          have b2 : inT s1 0 = true := b2
          have c1 : opq (atT s1 1) = (b : Int) := c1
          have c2 : inT s1 1 = true := c2
          have d1 : digO (a : Int) = digH a := by rw [digO, opq_eq, Int.toNat_natCast]
          have d2 : digO (b : Int) = digH b := by rw [digO, opq_eq, Int.toNat_natCast]
          have k1 : cdec ((0 : Int) ≤ (a : Int) ∧ (a : Int) < 256) = true := by rw [cdec_iff]; omega
          have k2 : cdec ((0 : Int) ≤ (b : Int) ∧ (b : Int) < 256) = true := by rw [cdec_iff]; omega
          have i2 : inSl s1 2 (s1.size : Int) = true := in_end (i := 2) (by rw [e1]; simp)
          have e2 : strL (subT s1 2 (s1.size : Int)) = l' := by
            have := sub_end s1 2
            rw [e1] at this
            exact this
          rw [show decide ((s1.size : Int) < 2) = false by rw [strL_size, e1]; simp; omega, br_f, b1, c1, b2, c2, br_t, k1, k2, br_t, d1, d2, i2]
          simp only [br_t]
          rcases digH_or (a := a) with ha | ⟨u, hu, ha⟩
          · have : unqF (n + 1) (92 :: a :: b :: l') = none := by
              show (bif negI (digH a) || negI (digH b) then none else _) = none
              rw [show negI (digH a) = true by simpa [negI] using ha]; rfl
            rw [this, show decide (digH a < 0) = true by simpa using ha, br_t]
            exact ⟨fun r hr => (by cases hr), fun _ => ⟨X, rfl⟩⟩
          · rw [show decide (digH a < 0) = false by rw [ha]; simp, br_f]
            rcases digH_or (a := b) with hb' | ⟨v, hv, hb'⟩
            · have : unqF (n + 1) (92 :: a :: b :: l') = none := by
                show (bif negI (digH a) || negI (digH b) then none else _) = none
                rw [show negI (digH b) = true by simpa [negI] using hb', Bool.or_true]; rfl
              rw [this, show decide (digH b < 0) = true by simpa using hb', br_t]
              exact ⟨fun r hr => (by cases hr), fun _ => ⟨X, rfl⟩⟩
            · have hun : unqF (n + 1) (92 :: a :: b :: l') = (unqF n l').map fun r => (u * 16 + v) :: r := by
                show (bif negI (digH a) || negI (digH b) then none else (unqF n l').map fun r => (digH a * 16 + digH b).toNat :: r) = _
                rw [show negI (digH a) = false by rw [ha]; simp [negI], show negI (digH b) = false by rw [hb']; simp [negI], ha, hb']
                show ((unqF n l').map fun r => ((u : Int) * 16 + (v : Int)).toNat :: r) = _
                rw [show ((u : Int) * 16 + (v : Int)).toNat = u * 16 + v by omega]
              have w1 : opq (IntKind.u8.wrap (opq (bitsI BinOp.or IntKind.i64 (opq (IntKind.i64.wrap (digH a * 16))) (digH b)))) = ((u * 16 + v : Nat) : Int) := by
                rw [opq_eq, opq_eq, opq_eq, ha, hb', or_eq hu hv]
              have w2 : opq (IntKind.u8.wrap (opq (bitsI BinOp.or IntKind.i64 (opq (IntKind.i64.wrap (digH a * (2 : Int) ^ min (Int.toNat (4 : Int)) IntKind.i64.bits))) (digH b)))) = ((u * 16 + v : Nat) : Int) := w1
              have k3 : cdec ((0 : Int) ≤ ((u * 16 + v : Nat) : Int) ∧ ((u * 16 + v : Nat) : Int) < 256) = true := by rw [cdec_iff]; omega
              rw [hun, show decide (digH b < 0) = false by rw [hb']; simp, br_f, bd_G ho, onSome_some, w1, w2, k3, fit1, Int.toNat_natCast, show (true && (true && true)) = true from rfl, br_t]
              obtain ⟨z1, z2⟩ := Bd.put_bytes hl [u * 16 + v]
              have ih := u_loop F K n (subT s1 2 (s1.size : Int)) (X.put [u * 16 + v]) (by rw [e2]; simp at hn; omega) (ho.put (by intro x hx; simp at hx; omega)) z2 (by rw [e2, z1]; simp at hb ⊢; omega)
              rw [e2] at ih
              refine ⟨fun r hr => ?_, fun hr => ?_⟩
              · cases hu' : unqF n l' with
                | none => rw [hu'] at hr; cases hr
                | some r' =>
                  rw [hu'] at hr
                  cases hr
                  obtain ⟨y0, yl, Y, y1, y2, y3, y4⟩ := ih.1 r' hu'
                  refine ⟨fun x hx => ?_, by simp; omega, Y, y1, y2, by rw [y3, z1]; simp, y4⟩
                  rcases List.mem_cons.mp hx with rfl | hx
                  · omega
                  · exact y0 x hx
              · cases hu' : unqF n l' with
                | none => exact ih.2 hu'
                | some r' => rw [hu'] at hr; cases hr
      · rw [show ((c : Int) == 92) = false by simp; omega, br_f, bd_G ho, onSome_some, show cdec ((0 : Int) ≤ (c : Int) ∧ (c : Int) < 256) = true by rw [cdec_iff]; omega, fit1, show (true && (true && true)) = true from rfl, br_t, Int.toNat_natCast]
        have hun : unqF (n + 1) (c :: l) = (unqF n l).map fun r => c :: r := by
          show (bif Nat.beq c 92 then _ else (unqF n l).map fun r => c :: r) = _
          rw [show Nat.beq c 92 = false by rw [Bool.eq_false_iff]; intro h; exact hc (Nat.eq_of_beq_eq_true h)]; rfl
        rw [hun]
        rw [hs] at hn hb
        obtain ⟨z1, z2⟩ := Bd.put_bytes hl [c]
        have ih := u_loop F K n (subT s 1 (s.size : Int)) (X.put [c]) (by rw [e1]; simp at hn; omega) (ho.put (by intro x hx; simp at hx; omega)) z2 (by rw [e1, z1]; simp at hb ⊢; omega)
        rw [e1] at ih
        refine ⟨fun r hr => ?_, fun hr => ?_⟩
        · cases hu' : unqF n l with
          | none => rw [hu'] at hr; cases hr
          | some r' =>
            rw [hu'] at hr
            cases hr
            obtain ⟨y0, yl, Y, y1, y2, y3, y4⟩ := ih.1 r' hu'
            refine ⟨fun x hx => ?_, by simp; omega, Y, y1, y2, by rw [y3, z1]; simp, y4⟩
            rcases List.mem_cons.mp hx with rfl | hx
            · exact a3
            · exact y0 x hx
        · cases hu' : unqF n l with
          | none => exact ih.2 hu'
          | some r' => rw [hu'] at hr; cases hr

def unqL (l : List Nat) : Option (List Nat) := unqF (l.length + 1) l
def unqS (s : ByteArray) : ByteArray := match unqL (strL s) with
  | some r => strB r
  | none => ⟨#[]⟩
theorem u_can {s : ByteArray} (hs : (strL s).length ≤ 100000000) : ∃ F st', f52.run F [.str s] ⟨[], []⟩ = some (.ret (.tup [.str (unqS s), .bool (unqL (strL s)).isSome]), st') := by
  have h0 : (Bd.fresh 0).Ok := trivial
  have hob : [Ob.cells [AV.nilptr, AV.nilsl], Ob.nov 0] = [BdA.ob 0 (.fresh 0) 0, BdA.ob 0 (.fresh 0) 1] := (obl0 h0).symm
  obtain ⟨k1, k2⟩ := u_loop ((strL s).length + 1) (Cont.block 0 (Cont.then (f52_r0.run ((strL s).length + 1) (f52.leaveK Fun.done)) (f52.leaveK Fun.done))) ((strL s).length + 1) s (.fresh 0) (by omega) h0 rfl (by show 0 + _ ≤ _; omega)
  cases hu : unqF ((strL s).length + 1) (strL s) with
  | some r =>
    obtain ⟨_, hrl, Y, y1, y2, y3, y4⟩ := k1 r hu
    have y3 : Y.bytes = r := y3
    refine ⟨(strL s).length + 1, ⟨[BdA.ob 0 Y.out 0, BdA.ob 0 Y.out 1], []⟩, ?_⟩
    rw [u_run, hob]
    refine Eq.trans y4 ?_
    rw [u_out, bd_G y1, onSome_some, show Y.fits 0 = true by rw [Bd.fits_iff, y3]; exact ⟨y2, by omega⟩, br_t, y3, unqS, unqL, hu]
    rfl
  | none =>
    obtain ⟨Y, y4⟩ := k2 hu
    refine ⟨(strL s).length + 1, ⟨[BdA.ob 0 Y 0, BdA.ob 0 Y 1], []⟩, ?_⟩
    rw [u_run, hob]
    refine Eq.trans y4 ?_
    rw [u_ret, unqS, unqL, hu]
    rfl
noncomputable def p34 : POrc Tryd.prog := f34.flatIf dec1s (fun s => [.str s]) dec1s_enc (fun s => cdec ((strL s).length ≤ 100000000)) (fun s => .str (strB (qtL (strL s)))) (fun _ => ⟨trivial, trivial⟩) (fun _ => trivial) fun s hs => ⟨_, q_can (cdec_iff.mp hs)⟩
noncomputable def p52 : POrc Tryd.prog := f52.flatD dec1s (fun s => [.str s]) dec1s_enc (fun s => cdec ((strL s).length ≤ 100000000)) (fun s => .tup [.str (unqS s), .bool (unqL (strL s)).isSome]) (fun _ => ⟨trivial, trivial⟩) (fun _ => ⟨trivial, trivial, trivial⟩) fun s hs => u_can (cdec_iff.mp hs)
end Go.Proofs.YtcfedmheblbdnaaDoor.V

/- The functions' pieces, as told by gen.py. -/
set_option linter.unusedVariables false
set_option maxRecDepth 20000
namespace Go.Proofs.YtcfedmheblbdnaaDoor.V
open Go Go.V Go.RowKit

theorem fl24_0 : fieldB Tryd.prog 24 0 0 1 false = true := by kernel_rfl
theorem sz3 : (Tryd.prog.info? 3).map (·.size) = some 1 := by kernel_rfl
noncomputable abbrev d24 : TypeDesc := (Tryd.prog.underlying 24).getD .bool
theorem ud24 : Tryd.prog.underlying 24 = some d24 := by kernel_rfl
theorem sz24 : (Tryd.prog.info? 24).map (·.size) = some 3 := by kernel_rfl
theorem ze24 : (Tryd.prog.info? 24).bind (·.zero) = some (.agg #[(.int .i64 0), (.int .i64 0), (.string ⟨#[]⟩)]) := by kernel_rfl
theorem eq24 : eqFlatB Tryd.prog 24 [(0, 0), (1, 0), (2, 2)] = true := by kernel_rfl
theorem fl24_2 : fieldB Tryd.prog 24 2 2 1 false = true := by kernel_rfl
theorem sz9 : (Tryd.prog.info? 9).map (·.size) = some 1 := by kernel_rfl
theorem fl24_1 : fieldB Tryd.prog 24 1 1 1 false = true := by kernel_rfl

/-! ### 13: interlock/value.Right (24); results 2; slots: 0 v, 1 v -/
noncomputable def f13_b : Sim Tryd.prog :=
 (.seq (.live [1] (.region 0 [
 ⟨(opBoxF (some 1) 24 (.tmp 0) 0 "value.go:17" #[]).op, none⟩,
 ⟨(opAssign (some 2) (.const (Value.bool false)) 4 "value.go:17" #[]).op, none⟩
 ] (by kernel_rfl)))
 (.seq (.seq (.live [1, 4] (.region 1 [
 ⟨(opFieldAddr (some 3) 24 (.tmp 1) 0 0 1 false fl24_0 (by decide) 0 "value.go:18" #[]).op, none⟩,
 ⟨(opLoadT (.one (.int .i64)) (some 4) 3 (.tmp 3) (.int .i64) Tryd.underlying3 1 sz3 (by kernel_rfl) 3 "value.go:18" #[eD 0]).op, none⟩
 ] (by kernel_rfl)))
 (.block 0 (.seq (.live [1, 4, 5] (.region 2 [
 ⟨(opBin (some 6) .eql 3 (.tmp 4) (.const (Value.int IntKind.i64 0)) 3 4 "value.go:19" #[]).op, none⟩,
 ⟨(opAssign (some 5) (.tmp 6) 4 "value.go:19" #[eD 0]).op, none⟩
 ] (by kernel_rfl)))
 (.cond (.tmp 5)
 (.seq (.live [2] (.region 3 [
 ⟨(opLoadT (.agg [(.int .i64), (.int .i64), .str]) (some 7) 24 (.tmp 1) d24 ud24 3 sz24 (by kernel_rfl) 24 "value.go:20" #[]).op, none⟩,
 ⟨(opBuild (some 8) 24 #[(.int .i64 0), (.int .i64 0), (.string ⟨#[]⟩)] [] ze24 (by kernel_rfl) 24 "value.go:20" #[]).op, none⟩,
 ⟨(opEqS (some 9) 24 [(0, 0), (1, 0), (2, 2)] eq24 (.tmp 7) (.tmp 8) 24 4 "value.go:20" #[eD 0, eD 1]).op, none⟩,
 ⟨(opAssign (some 2) (.tmp 9) 4 "value.go:20" #[eD 2, eP 0, eP 1, eP 2]).op, none⟩
 ] (by kernel_rfl)))
 (.live [2] .ret))
 (.seq (.live [1, 4, 10] (.region 4 [
 ⟨(opBin (some 11) .eql 3 (.tmp 4) (.const (Value.int IntKind.i64 1)) 3 4 "value.go:21" #[]).op, none⟩,
 ⟨(opAssign (some 10) (.tmp 11) 4 "value.go:21" #[eD 0]).op, none⟩
 ] (by kernel_rfl)))
 (.cond (.tmp 10)
 (.seq (.live [2] (.region 5 [
 ⟨(opFieldAddr (some 12) 24 (.tmp 1) 2 2 1 false fl24_2 (by decide) 0 "value.go:22" #[]).op, none⟩,
 ⟨(opLoadT (.one .str) (some 13) 9 (.tmp 12) .string Tryd.underlying9 1 sz9 (by kernel_rfl) 9 "value.go:22" #[eD 0]).op, none⟩,
 ⟨(opBinS (some 14) .eql 9 (.tmp 13) (.const (Value.string { data := #[] })) 9 4 "value.go:22" #[eD 1]).op, none⟩,
 ⟨(opAssign (some 2) (.tmp 14) 4 "value.go:22" #[eD 2, eP 0, eP 1, eP 2]).op, none⟩
 ] (by kernel_rfl)))
 (.live [2] .ret))
 (.seq (.live [1, 4, 15] (.region 6 [
 ⟨(opBin (some 16) .eql 3 (.tmp 4) (.const (Value.int IntKind.i64 2)) 3 4 "value.go:23" #[]).op, none⟩,
 ⟨(opAssign (some 15) (.tmp 16) 4 "value.go:23" #[eD 0]).op, none⟩
 ] (by kernel_rfl)))
 (.cond (.tmp 15)
 (.seq (.live [2] (.region 7 [
 ⟨(opFieldAddr (some 17) 24 (.tmp 1) 2 2 1 false fl24_2 (by decide) 0 "value.go:24" #[]).op, none⟩,
 ⟨(opLoadT (.one .str) (some 18) 9 (.tmp 17) .string Tryd.underlying9 1 sz9 (by kernel_rfl) 9 "value.go:24" #[eD 0]).op, none⟩,
 ⟨(opBinS (some 19) .eql 9 (.tmp 18) (.const (Value.string { data := #[] })) 9 4 "value.go:24" #[eD 1]).op, none⟩,
 ⟨(opMove (some 20) (.tmp 19) 4 "value.go:24" #[eD 2]).op, none⟩,
 ⟨(opFieldAddr (some 21) 24 (.tmp 1) 1 1 1 false fl24_1 (by decide) 0 "value.go:24" #[eG 3]).op, (some (3, 20, true))⟩,
 ⟨(opLoadT (.one (.int .i64)) (some 22) 3 (.tmp 21) (.int .i64) Tryd.underlying3 1 sz3 (by kernel_rfl) 3 "value.go:24" #[eD 4, eG 3]).op, (some (3, 20, true))⟩,
 ⟨(opBin (some 23) .eql 3 (.tmp 22) (.const (Value.int IntKind.i64 0)) 3 4 "value.go:24" #[eD 5, eG 3]).op, (some (3, 20, true))⟩,
 ⟨(opMove (some 24) (.tmp 23) 4 "value.go:24" #[eD 6, eC 3, eG 3]).op, (some (3, 20, true))⟩,
 ⟨(opFieldAddr (some 25) 24 (.tmp 1) 1 1 1 false fl24_1 (by decide) 0 "value.go:24" #[eG 7]).op, (some (7, 24, false))⟩,
 ⟨(opLoadT (.one (.int .i64)) (some 26) 3 (.tmp 25) (.int .i64) Tryd.underlying3 1 sz3 (by kernel_rfl) 3 "value.go:24" #[eD 8, eG 7]).op, (some (7, 24, false))⟩,
 ⟨(opBin (some 27) .eql 3 (.tmp 26) (.const (Value.int IntKind.i64 1)) 3 4 "value.go:24" #[eD 9, eG 7]).op, (some (7, 24, false))⟩,
 ⟨(opPick (some 28) (.tmp 24) (.const (Value.bool true)) (.tmp 27) 4 "value.go:24" #[eD 7, eD 10, eG 3]).op, (some (3, 20, true))⟩,
 ⟨(opPick (some 29) (.tmp 20) (.tmp 28) (.const (Value.bool false)) 4 "value.go:24" #[eD 3, eD 11]).op, none⟩,
 ⟨(opAssign (some 2) (.tmp 29) 4 "value.go:24" #[eD 12, eC 7, eP 0, eP 1, eP 2, eP 3, eP 4, eP 5, eP 6, eP 7, eP 8, eP 9, eP 10, eP 11, eP 12]).op, none⟩
 ] (by kernel_rfl)))
 (.live [2] .ret))
 (.seq (.live [1, 30] (.region 8 [
 ⟨(opBin (some 31) .eql 3 (.tmp 4) (.const (Value.int IntKind.i64 3)) 3 4 "value.go:25" #[]).op, none⟩,
 ⟨(opAssign (some 30) (.tmp 31) 4 "value.go:25" #[eD 0]).op, none⟩
 ] (by kernel_rfl)))
 (.cond (.tmp 30)
 (.seq (.live [2] (.region 9 [
 ⟨(opFieldAddr (some 32) 24 (.tmp 1) 1 1 1 false fl24_1 (by decide) 0 "value.go:26" #[]).op, none⟩,
 ⟨(opLoadT (.one (.int .i64)) (some 33) 3 (.tmp 32) (.int .i64) Tryd.underlying3 1 sz3 (by kernel_rfl) 3 "value.go:26" #[eD 0]).op, none⟩,
 ⟨(opBin (some 34) .eql 3 (.tmp 33) (.const (Value.int IntKind.i64 0)) 3 4 "value.go:26" #[eD 1]).op, none⟩,
 ⟨(opMove (some 35) (.tmp 34) 4 "value.go:26" #[eD 2]).op, none⟩,
 ⟨(opFieldAddr (some 36) 24 (.tmp 1) 2 2 1 false fl24_2 (by decide) 0 "value.go:26" #[eG 3]).op, (some (3, 35, true))⟩,
 ⟨(opLoadT (.one .str) (some 37) 9 (.tmp 36) .string Tryd.underlying9 1 sz9 (by kernel_rfl) 9 "value.go:26" #[eD 4, eG 3]).op, (some (3, 35, true))⟩,
 ⟨(opLen (some 38) (.tmp 37) 9 .string Tryd.underlying9 3 "value.go:26" #[eD 5, eG 3]).op, (some (3, 35, true))⟩,
 ⟨(opBin (some 39) .leq 3 (.tmp 38) (.const (Value.int IntKind.i64 16)) 3 4 "value.go:26" #[eD 6, eG 3]).op, (some (3, 35, true))⟩,
 ⟨(opPick (some 40) (.tmp 35) (.tmp 39) (.const (Value.bool false)) 4 "value.go:26" #[eD 3, eD 7]).op, none⟩,
 ⟨(opAssign (some 2) (.tmp 40) 4 "value.go:26" #[eD 8, eC 3, eP 0, eP 1, eP 2, eP 3, eP 4, eP 5, eP 6, eP 7, eP 8]).op, none⟩
 ] (by kernel_rfl)))
 (.live [2] .ret))
 .skip))))))))))
 (.seq (.live [2] (.region 10 [
 ⟨(opAssign (some 2) (.const (Value.bool false)) 4 "value.go:28" #[]).op, none⟩
 ] (by kernel_rfl)))
 (.live [2] .ret))))

noncomputable def f13 : Fun Tryd.prog where
 id := 13
 fn := Tryd.f13
 hf := Tryd.func13
 hname := by kernel_rfl
 body := f13_b
 hbody := by kernel_rfl
 res := [rTmp 2]
 hres := by kernel_rfl
 n := 41
 hn := by kernel_rfl

/-! ### 59: cmp.isNaN[int] (3); results 2; slots: 0 x, 1 x -/
noncomputable def f59_b : Sim Tryd.prog :=
 (.seq (.live [0] (.region 0 [
 ⟨(opAssign (some 2) (.const (Value.bool false)) 4 "cmp.go:63" #[]).op, none⟩
 ] (by kernel_rfl)))
 (.seq (.live [2] (.region 1 [
 ⟨(opMove (some 3) (.tmp 0) 3 "cmp.go:64" #[]).op, none⟩,
 ⟨(opMove (some 4) (.tmp 0) 3 "cmp.go:64" #[]).op, none⟩,
 ⟨(opBin (some 5) .neq 3 (.tmp 3) (.tmp 4) 3 4 "cmp.go:64" #[eD 0, eD 1]).op, none⟩,
 ⟨(opAssign (some 2) (.tmp 5) 4 "cmp.go:64" #[eD 2, eP 0, eP 1, eP 2]).op, none⟩
 ] (by kernel_rfl)))
 (.live [2] .ret)))

noncomputable def f59 : Fun Tryd.prog where
 id := 59
 fn := Tryd.f59
 hf := Tryd.func59
 hname := by kernel_rfl
 body := f59_b
 hbody := by kernel_rfl
 res := [rTmp 2]
 hres := by kernel_rfl
 n := 6
 hn := by kernel_rfl

/-! ### 60: cmp.isNaN[string] (9); results 2; slots: 0 x, 1 x -/
noncomputable def f60_b : Sim Tryd.prog :=
 (.seq (.live [0] (.region 0 [
 ⟨(opAssign (some 2) (.const (Value.bool false)) 4 "cmp.go:63" #[]).op, none⟩
 ] (by kernel_rfl)))
 (.seq (.live [2] (.region 1 [
 ⟨(opMove (some 3) (.tmp 0) 9 "cmp.go:64" #[]).op, none⟩,
 ⟨(opMove (some 4) (.tmp 0) 9 "cmp.go:64" #[]).op, none⟩,
 ⟨(opBinS (some 5) .neq 9 (.tmp 3) (.tmp 4) 9 4 "cmp.go:64" #[eD 0, eD 1]).op, none⟩,
 ⟨(opAssign (some 2) (.tmp 5) 4 "cmp.go:64" #[eD 2, eP 0, eP 1, eP 2]).op, none⟩
 ] (by kernel_rfl)))
 (.live [2] .ret)))

noncomputable def f60 : Fun Tryd.prog where
 id := 60
 fn := Tryd.f60
 hf := Tryd.func60
 hname := by kernel_rfl
 body := f60_b
 hbody := by kernel_rfl
 res := [rTmp 2]
 hres := by kernel_rfl
 n := 6
 hn := by kernel_rfl

/-! ### 37: cmp.Compare[int] (3, 3); results 4; slots: 0 x, 1 y, 2 x, 3 y, 5 xNaN, 6 yNaN -/
noncomputable def f37_b : Sim Tryd.prog :=
 (.seq (.live [0, 1] (.region 0 [
 ⟨(opAssign (some 4) (.const (Value.int IntKind.i64 0)) 3 "cmp.go:40" #[]).op, none⟩
 ] (by kernel_rfl)))
 (.seq (.live [0, 1, 5] (.region 1 [
 ⟨(opMove (some 7) (.tmp 0) 3 "cmp.go:41" #[]).op, none⟩,
 ⟨opCall (f59.orc 0) (some 8) [(.tmp 7)] #[3] 4 "cmp.go:41" #[eD 0], none⟩,
 ⟨(opAssign (some 5) (.tmp 8) 4 "cmp.go:41" #[eD 1, eC 1, eP 0, eP 1]).op, none⟩
 ] (by kernel_rfl)))
 (.seq (.live [0, 1, 5, 6] (.region 2 [
 ⟨(opMove (some 9) (.tmp 1) 3 "cmp.go:42" #[]).op, none⟩,
 ⟨opCall (f59.orc 0) (some 10) [(.tmp 9)] #[3] 4 "cmp.go:42" #[eD 0], none⟩,
 ⟨(opAssign (some 6) (.tmp 10) 4 "cmp.go:42" #[eD 1, eC 1, eP 0, eP 1]).op, none⟩
 ] (by kernel_rfl)))
 (.seq (.seq (.live [0, 1, 6, 11] (.region 3 [
 ⟨(opMove (some 11) (.tmp 5) 4 "cmp.go:43" #[]).op, none⟩
 ] (by kernel_rfl)))
 (.cond (.tmp 11)
 (.seq (.seq (.live [12] (.region 4 [
 ⟨(opMove (some 12) (.tmp 6) 4 "cmp.go:44" #[]).op, none⟩
 ] (by kernel_rfl)))
 (.cond (.tmp 12)
 (.seq (.live [4] (.region 5 [
 ⟨(opAssign (some 4) (.const (Value.int IntKind.i64 0)) 3 "cmp.go:45" #[]).op, none⟩
 ] (by kernel_rfl)))
 (.live [4] .ret))
 .skip))
 (.seq (.live [4] (.region 6 [
 ⟨(opAssign (some 4) (.const (Value.int IntKind.i64 (-1))) 3 "cmp.go:47" #[]).op, none⟩
 ] (by kernel_rfl)))
 (.live [4] .ret)))
 .skip))
 (.seq (.seq (.live [0, 1, 13] (.region 7 [
 ⟨(opMove (some 13) (.tmp 6) 4 "cmp.go:49" #[]).op, none⟩
 ] (by kernel_rfl)))
 (.cond (.tmp 13)
 (.seq (.live [4] (.region 8 [
 ⟨(opAssign (some 4) (.const (Value.int IntKind.i64 1)) 3 "cmp.go:50" #[]).op, none⟩
 ] (by kernel_rfl)))
 (.live [4] .ret))
 .skip))
 (.seq (.seq (.live [0, 1, 16] (.region 9 [
 ⟨(opMove (some 14) (.tmp 0) 3 "cmp.go:52" #[]).op, none⟩,
 ⟨(opMove (some 15) (.tmp 1) 3 "cmp.go:52" #[]).op, none⟩,
 ⟨(opBin (some 16) .lss 3 (.tmp 14) (.tmp 15) 3 4 "cmp.go:52" #[eD 0, eD 1]).op, none⟩
 ] (by kernel_rfl)))
 (.cond (.tmp 16)
 (.seq (.live [4] (.region 10 [
 ⟨(opAssign (some 4) (.const (Value.int IntKind.i64 (-1))) 3 "cmp.go:53" #[]).op, none⟩
 ] (by kernel_rfl)))
 (.live [4] .ret))
 .skip))
 (.seq (.seq (.live [19] (.region 11 [
 ⟨(opMove (some 17) (.tmp 0) 3 "cmp.go:55" #[]).op, none⟩,
 ⟨(opMove (some 18) (.tmp 1) 3 "cmp.go:55" #[]).op, none⟩,
 ⟨(opBin (some 19) .gtr 3 (.tmp 17) (.tmp 18) 3 4 "cmp.go:55" #[eD 0, eD 1]).op, none⟩
 ] (by kernel_rfl)))
 (.cond (.tmp 19)
 (.seq (.live [4] (.region 12 [
 ⟨(opAssign (some 4) (.const (Value.int IntKind.i64 1)) 3 "cmp.go:56" #[]).op, none⟩
 ] (by kernel_rfl)))
 (.live [4] .ret))
 .skip))
 (.seq (.live [4] (.region 13 [
 ⟨(opAssign (some 4) (.const (Value.int IntKind.i64 0)) 3 "cmp.go:58" #[]).op, none⟩
 ] (by kernel_rfl)))
 (.live [4] .ret)))))))))

noncomputable def f37 : Fun Tryd.prog where
 id := 37
 fn := Tryd.f37
 hf := Tryd.func37
 hname := by kernel_rfl
 body := f37_b
 hbody := by kernel_rfl
 res := [rTmp 4]
 hres := by kernel_rfl
 n := 20
 hn := by kernel_rfl

/-! ### 38: cmp.Compare[string] (9, 9); results 4; slots: 0 x, 1 y, 2 x, 3 y, 5 xNaN, 6 yNaN -/
noncomputable def f38_b : Sim Tryd.prog :=
 (.seq (.live [0, 1] (.region 0 [
 ⟨(opAssign (some 4) (.const (Value.int IntKind.i64 0)) 3 "cmp.go:40" #[]).op, none⟩
 ] (by kernel_rfl)))
 (.seq (.live [0, 1, 5] (.region 1 [
 ⟨(opMove (some 7) (.tmp 0) 9 "cmp.go:41" #[]).op, none⟩,
 ⟨opCall (f60.orc 0) (some 8) [(.tmp 7)] #[9] 4 "cmp.go:41" #[eD 0], none⟩,
 ⟨(opAssign (some 5) (.tmp 8) 4 "cmp.go:41" #[eD 1, eC 1, eP 0, eP 1]).op, none⟩
 ] (by kernel_rfl)))
 (.seq (.live [0, 1, 5, 6] (.region 2 [
 ⟨(opMove (some 9) (.tmp 1) 9 "cmp.go:42" #[]).op, none⟩,
 ⟨opCall (f60.orc 0) (some 10) [(.tmp 9)] #[9] 4 "cmp.go:42" #[eD 0], none⟩,
 ⟨(opAssign (some 6) (.tmp 10) 4 "cmp.go:42" #[eD 1, eC 1, eP 0, eP 1]).op, none⟩
 ] (by kernel_rfl)))
 (.seq (.seq (.live [0, 1, 6, 11] (.region 3 [
 ⟨(opMove (some 11) (.tmp 5) 4 "cmp.go:43" #[]).op, none⟩
 ] (by kernel_rfl)))
 (.cond (.tmp 11)
 (.seq (.seq (.live [12] (.region 4 [
 ⟨(opMove (some 12) (.tmp 6) 4 "cmp.go:44" #[]).op, none⟩
 ] (by kernel_rfl)))
 (.cond (.tmp 12)
 (.seq (.live [4] (.region 5 [
 ⟨(opAssign (some 4) (.const (Value.int IntKind.i64 0)) 3 "cmp.go:45" #[]).op, none⟩
 ] (by kernel_rfl)))
 (.live [4] .ret))
 .skip))
 (.seq (.live [4] (.region 6 [
 ⟨(opAssign (some 4) (.const (Value.int IntKind.i64 (-1))) 3 "cmp.go:47" #[]).op, none⟩
 ] (by kernel_rfl)))
 (.live [4] .ret)))
 .skip))
 (.seq (.seq (.live [0, 1, 13] (.region 7 [
 ⟨(opMove (some 13) (.tmp 6) 4 "cmp.go:49" #[]).op, none⟩
 ] (by kernel_rfl)))
 (.cond (.tmp 13)
 (.seq (.live [4] (.region 8 [
 ⟨(opAssign (some 4) (.const (Value.int IntKind.i64 1)) 3 "cmp.go:50" #[]).op, none⟩
 ] (by kernel_rfl)))
 (.live [4] .ret))
 .skip))
 (.seq (.seq (.live [0, 1, 16] (.region 9 [
 ⟨(opMove (some 14) (.tmp 0) 9 "cmp.go:52" #[]).op, none⟩,
 ⟨(opMove (some 15) (.tmp 1) 9 "cmp.go:52" #[]).op, none⟩,
 ⟨(opBinS (some 16) .lss 9 (.tmp 14) (.tmp 15) 9 4 "cmp.go:52" #[eD 0, eD 1]).op, none⟩
 ] (by kernel_rfl)))
 (.cond (.tmp 16)
 (.seq (.live [4] (.region 10 [
 ⟨(opAssign (some 4) (.const (Value.int IntKind.i64 (-1))) 3 "cmp.go:53" #[]).op, none⟩
 ] (by kernel_rfl)))
 (.live [4] .ret))
 .skip))
 (.seq (.seq (.live [19] (.region 11 [
 ⟨(opMove (some 17) (.tmp 0) 9 "cmp.go:55" #[]).op, none⟩,
 ⟨(opMove (some 18) (.tmp 1) 9 "cmp.go:55" #[]).op, none⟩,
 ⟨(opBinS (some 19) .gtr 9 (.tmp 17) (.tmp 18) 9 4 "cmp.go:55" #[eD 0, eD 1]).op, none⟩
 ] (by kernel_rfl)))
 (.cond (.tmp 19)
 (.seq (.live [4] (.region 12 [
 ⟨(opAssign (some 4) (.const (Value.int IntKind.i64 1)) 3 "cmp.go:56" #[]).op, none⟩
 ] (by kernel_rfl)))
 (.live [4] .ret))
 .skip))
 (.seq (.live [4] (.region 13 [
 ⟨(opAssign (some 4) (.const (Value.int IntKind.i64 0)) 3 "cmp.go:58" #[]).op, none⟩
 ] (by kernel_rfl)))
 (.live [4] .ret)))))))))

noncomputable def f38 : Fun Tryd.prog where
 id := 38
 fn := Tryd.f38
 hf := Tryd.func38
 hname := by kernel_rfl
 body := f38_b
 hbody := by kernel_rfl
 res := [rTmp 4]
 hres := by kernel_rfl
 n := 20
 hn := by kernel_rfl

/-! ### 36: cmp.Or[int] (82); results 2; slots: 0 vals, 1 vals, 3 zero, 4 _, 5 val -/
/-- A loop's round; at its head live: 3 zero, 6 , 7 , 8  -/
noncomputable def f36_l0 : Sim Tryd.prog :=
 (.seq (.live [3, 6, 7, 8, 9] (.region 3 [
 ⟨(opBin (some 9) .lss 3 (.tmp 8) (.tmp 7) 3 0 "cmp.go:71" #[]).op, none⟩
 ] (by kernel_rfl)))
 (.seq (.cond (.tmp 9)
 .skip
 (.live [3] (.exit 0)))
 (.seq (.block 1 (.seq (.live [3, 5, 6, 7, 8] (.region 4 [
 ⟨(opIndexAddrT (some 10) 82 (.tmp 6) (.tmp 8) 3 1 Tryd.underlying82 sz3 0 "cmp.go:71" #[]).op, none⟩,
 ⟨(opLoadT (.one (.int .i64)) (some 11) 3 (.tmp 10) (.int .i64) Tryd.underlying3 1 sz3 (by kernel_rfl) 3 "cmp.go:71" #[eD 0]).op, none⟩,
 ⟨(opAssign (some 5) (.tmp 11) 3 "cmp.go:71" #[eD 1, eP 0, eP 1]).op, none⟩
 ] (by kernel_rfl)))
 (.seq (.live [3, 5, 6, 7, 8, 14] (.region 5 [
 ⟨(opMove (some 12) (.tmp 5) 3 "cmp.go:72" #[]).op, none⟩,
 ⟨(opMove (some 13) (.tmp 3) 3 "cmp.go:72" #[]).op, none⟩,
 ⟨(opBin (some 14) .neq 3 (.tmp 12) (.tmp 13) 3 4 "cmp.go:72" #[eD 0, eD 1]).op, none⟩
 ] (by kernel_rfl)))
 (.cond (.tmp 14)
 (.seq (.live [2] (.region 6 [
 ⟨(opMove (some 15) (.tmp 5) 3 "cmp.go:73" #[]).op, none⟩,
 ⟨(opAssign (some 2) (.tmp 15) 3 "cmp.go:73" #[eD 0, eP 0]).op, none⟩
 ] (by kernel_rfl)))
 (.live [2] .ret))
 .skip))))
 (.live [3, 6, 7, 8] (.region 7 [
 ⟨(opBin (some 16) .add 3 (.tmp 8) (.const (Value.int IntKind.i64 1)) 3 3 "cmp.go:71" #[]).op, none⟩,
 ⟨(opMove (some 8) (.tmp 16) 3 "cmp.go:71" #[eD 0]).op, none⟩
 ] (by kernel_rfl))))))

/-- What follows a loop. -/
noncomputable def f36_r0 : Sim Tryd.prog :=
 (.seq (.live [2] (.region 8 [
 ⟨(opMove (some 17) (.tmp 3) 3 "cmp.go:76" #[]).op, none⟩,
 ⟨(opAssign (some 2) (.tmp 17) 3 "cmp.go:76" #[eD 0, eP 0]).op, none⟩
 ] (by kernel_rfl)))
 (.live [2] .ret))

noncomputable def f36_b : Sim Tryd.prog :=
 (.seq (.live [0] (.region 0 [
 ⟨(opAssign (some 2) (.const (Value.int IntKind.i64 0)) 3 "cmp.go:69" #[]).op, none⟩
 ] (by kernel_rfl)))
 (.seq (.live [0, 3] (.region 1 [
 ⟨(opAssign (some 3) (.const (Value.int IntKind.i64 0)) 3 "cmp.go:70" #[]).op, none⟩
 ] (by kernel_rfl)))
 (.seq (.seq (.live [3, 6, 7, 8] (.region 2 [
 ⟨(opMove (some 6) (.tmp 0) 82 "cmp.go:71" #[]).op, none⟩,
 ⟨(opLen (some 7) (.tmp 6) 82 (.slice 3) Tryd.underlying82 3 "cmp.go:71" #[eD 0]).op, none⟩,
 ⟨(opMove (some 8) (.const (Value.int IntKind.i64 0)) 3 "cmp.go:71" #[]).op, none⟩
 ] (by kernel_rfl)))
 (.block 0 (.loop [3, 6, 7, 8] f36_l0)))
 f36_r0)))

noncomputable def f36 : Fun Tryd.prog where
 id := 36
 fn := Tryd.f36
 hf := Tryd.func36
 hname := by kernel_rfl
 body := f36_b
 hbody := by kernel_rfl
 res := [rTmp 2]
 hres := by kernel_rfl
 n := 18
 hn := by kernel_rfl

/-! ### 61: interlock/bits.fold (3); results 2; slots: 0 n, 1 n -/
noncomputable def f61_b : Sim Tryd.prog :=
 (.seq (.live [0] (.region 0 [
 ⟨(opAssign (some 2) (.const (Value.int IntKind.u64 0)) 84 "bits.go:13" #[]).op, none⟩
 ] (by kernel_rfl)))
 (.seq (.live [2] (.region 1 [
 ⟨(opMove (some 3) (.tmp 0) 3 "bits.go:13" #[]).op, none⟩,
 ⟨(opConvInt (some 4) 3 84 (.tmp 3) (.int .i64) Tryd.underlying3 .u64 Tryd.underlying84 84 "bits.go:13" #[eD 0]).op, none⟩,
 ⟨(opBin (some 5) .shl 84 (.tmp 4) (.const (Value.int IntKind.u64 1)) 80 84 "bits.go:13" #[eD 1]).op, none⟩,
 ⟨(opMove (some 6) (.tmp 0) 3 "bits.go:13" #[]).op, none⟩,
 ⟨(opBin (some 7) .shr 3 (.tmp 6) (.const (Value.int IntKind.u64 63)) 80 3 "bits.go:13" #[eD 3]).op, none⟩,
 ⟨(opConvInt (some 8) 3 84 (.tmp 7) (.int .i64) Tryd.underlying3 .u64 Tryd.underlying84 84 "bits.go:13" #[eD 4]).op, none⟩,
 ⟨(opBin (some 9) .xor 84 (.tmp 5) (.tmp 8) 84 84 "bits.go:13" #[eD 2, eD 5]).op, none⟩,
 ⟨(opAssign (some 2) (.tmp 9) 84 "bits.go:13" #[eD 6, eP 0, eP 1, eP 2, eP 3, eP 4, eP 5, eP 6]).op, none⟩
 ] (by kernel_rfl)))
 (.live [2] .ret)))

noncomputable def f61 : Fun Tryd.prog where
 id := 61
 fn := Tryd.f61
 hf := Tryd.func61
 hname := by kernel_rfl
 body := f61_b
 hbody := by kernel_rfl
 res := [rTmp 2]
 hres := by kernel_rfl
 n := 10
 hn := by kernel_rfl

end Go.Proofs.YtcfedmheblbdnaaDoor.V

/- What the functions' runs come to; the right sides were printed by a tool, Lean checks them. -/
set_option linter.unusedVariables false
set_option maxRecDepth 100000
namespace Go.Proofs.YtcfedmheblbdnaaDoor.V
open Go Go.V Go.RowKit

theorem right_run (F : Nat) (k n : Int) (s : ByteArray) (st : St) :
 (f13.run F [.agg [.int .i64 k, .int .i64 n, .str s]] st : Ans) =
 branch (AV.bool (k == (0 : Int)))
 (some (Fin.ret (AV.bool (k == (0 : Int) && (n == (0 : Int) && (s.toList == [] && true)))), st))
 (branch (AV.bool (k == (1 : Int))) (some (Fin.ret (AV.bool (s.toList == [])), st))
 (branch (AV.bool (k == (2 : Int)))
 (branch (AV.bool (s.toList == []))
 (branch (AV.bool (n == (0 : Int))) (some (Fin.ret (AV.bool true), st))
 (some (Fin.ret (AV.bool (n == (1 : Int))), st)))
 (some (Fin.ret (AV.bool false), st)))
 (branch (AV.bool (k == (3 : Int)))
 (branch (AV.bool (n == (0 : Int))) (some (Fin.ret (AV.bool (decide ((↑s.size : Int) ≤ (16 : Int)))), st))
 (some (Fin.ret (AV.bool false), st)))
 (some (Fin.ret (AV.bool false), st))))) := by kernel_rfl

theorem cmpi_run (F : Nat) (a b : Int) (st : St) :
 (f37.run F [.int .i64 a, .int .i64 b] st : Ans) =
 branch (AV.bool (a != a))
 (branch (AV.bool (b != b)) (some (Fin.ret (AV.int IntKind.i64 (0 : Int)), st))
 (some (Fin.ret (AV.int IntKind.i64 (-1 : Int)), st)))
 (branch (AV.bool (b != b)) (some (Fin.ret (AV.int IntKind.i64 (1 : Int)), st))
 (branch (AV.bool (decide (a < b))) (some (Fin.ret (AV.int IntKind.i64 (-1 : Int)), st))
 (branch (AV.bool (decide (a > b))) (some (Fin.ret (AV.int IntKind.i64 (1 : Int)), st))
 (some (Fin.ret (AV.int IntKind.i64 (0 : Int)), st))))) := by kernel_rfl

theorem cmps_run (F : Nat) (a b : ByteArray) (st : St) :
 (f38.run F [.str a, .str b] st : Ans) =
 branch (AV.bool !a.toList == a.toList)
 (branch (AV.bool !b.toList == b.toList) (some (Fin.ret (AV.int IntKind.i64 (0 : Int)), st))
 (some (Fin.ret (AV.int IntKind.i64 (-1 : Int)), st)))
 (branch (AV.bool !b.toList == b.toList) (some (Fin.ret (AV.int IntKind.i64 (1 : Int)), st))
 (branch (AV.bool (Op.bytesLess a.toList b.toList)) (some (Fin.ret (AV.int IntKind.i64 (-1 : Int)), st))
 (branch (AV.bool !(Op.bytesLess a.toList b.toList || a.toList == b.toList))
 (some (Fin.ret (AV.int IntKind.i64 (1 : Int)), st)) (some (Fin.ret (AV.int IntKind.i64 (0 : Int)), st))))) := by kernel_rfl

theorem or_run (F : Nat) (a b c : Int) (st : St) :
 (f36.run (F + 4) [.sl 1 true [[.int .i64 a], [.int .i64 b], [.int .i64 c]]] st : Ans) =
 branch (AV.bool (a != (0 : Int))) (some (Fin.ret (AV.int IntKind.i64 a), st))
 (branch (AV.bool (b != (0 : Int))) (some (Fin.ret (AV.int IntKind.i64 b), st))
 (branch (AV.bool (c != (0 : Int))) (some (Fin.ret (AV.int IntKind.i64 c), st))
 (some (Fin.ret (AV.int IntKind.i64 (0 : Int)), st)))) := by kernel_rfl

end Go.Proofs.YtcfedmheblbdnaaDoor.V

/- Values: Right, cmp's functions. -/
set_option linter.unusedVariables false
namespace Go.Proofs.YtcfedmheblbdnaaDoor.V
open Go Go.V Go.RowKit

/-- A value: its kind, number, text. -/
structure Va where
  k : Int
  n : Int
  s : ByteArray
def Va.cells (v : Va) : List AV := [.int .i64 v.k, .int .i64 v.n, .str v.s]
def Va.av (v : Va) : AV := .agg v.cells
def rightV (v : Va) : Bool := bif v.k == 0 then v.n == 0 && v.s.toList == [] else bif v.k == 1 then v.s.toList == [] else bif v.k == 2 then v.s.toList == [] && (v.n == 0 || v.n == 1) else bif v.k == 3 then v.n == 0 && decide ((v.s.size : Int) ≤ 16) else false
def decVa : AV → Option Va
  | .agg [k, n, s] => match k with
    | .int .i64 k => match n with
      | .int .i64 n => match s with
        | .str s => some ⟨k, n, s⟩
        | _ => none
      | _ => none
    | _ => none
  | _ => none
theorem decVa_some {x : AV} {v : Va} (h : decVa x = some v) : x = v.av := by
  unfold decVa at h
  split at h
  · split at h
    · split at h
      · split at h
        · cases h; rfl
        · cases h
      · cases h
    · cases h
  · cases h
def dec1v : List AV → Option Va
  | [x] => decVa x
  | _ => none
theorem dec1v_enc : ∀ l a, dec1v l = some a → l = [Va.av a] := by
  intro l a h
  unfold dec1v at h
  split at h
  · rw [decVa_some h]
  · cases h
def dec2v : List AV → Option (Va × Va)
  | [x, y] => match decVa x with
    | some a => match decVa y with
      | some b => some (a, b)
      | none => none
    | none => none
  | _ => none
theorem right_eq {F : Nat} (v : Va) (st : St) : f13.run F [v.av] st = some (.ret (.bool (rightV v)), st) := by
  obtain ⟨k, n, s⟩ := v
  show f13.run F [.agg [.int .i64 k, .int .i64 n, .str s]] st = _
  rw [right_run]
  simp only [rightV]
  cases h0 : k == 0
  · rw [show ∀ a b : Ans, branch (.bool false) a b = b from fun _ _ => rfl]
    cases h1 : k == 1
    · cases h2 : k == 2
      · cases h3 : k == 3
        · rfl
        · cases n == 0 <;> rfl
      · cases s.toList == []
        · rfl
        · cases h5 : n == 0
          · cases n == 1 <;> rfl
          · rfl
    · rfl
  · simp [branch]
noncomputable def p13 : POrc Tryd.prog := f13.flatIf dec1v (fun v => [v.av]) dec1v_enc (fun _ => true) (fun v => .bool (rightV v)) (fun _ => ⟨⟨trivial, trivial, trivial, trivial⟩, trivial⟩) (fun _ => trivial) fun v _ => ⟨0, _, right_eq v _⟩
def cmpI (a b : Int) : Int := bif decide (a < b) then -1 else bif decide (b < a) then 1 else 0
def cmpS (a b : ByteArray) : Int := bif Op.bytesLess a.toList b.toList then -1 else bif a.toList == b.toList then 0 else 1
def orI (a b c : Int) : Int := bif a != 0 then a else bif b != 0 then b else c
def dec2i : List AV → Option (Int × Int)
  | [x, y] => match x with
    | .int .i64 a => match y with
      | .int .i64 b => some (a, b)
      | _ => none
    | _ => none
  | _ => none
theorem dec2i_enc : ∀ l a, dec2i l = some a → l = [.int .i64 a.1, .int .i64 a.2] := by
  intro l a h
  unfold dec2i at h
  split at h
  · split at h
    · split at h
      · cases h; rfl
      · cases h
    · cases h
  · cases h
def dec2s : List AV → Option (ByteArray × ByteArray)
  | [x, y] => match x with
    | .str a => match y with
      | .str b => some (a, b)
      | _ => none
    | _ => none
  | _ => none
theorem dec2s_enc : ∀ l a, dec2s l = some a → l = [.str a.1, .str a.2] := by
  intro l a h
  unfold dec2s at h
  split at h
  · split at h
    · split at h
      · cases h; rfl
      · cases h
    · cases h
  · cases h
noncomputable def p37 : POrc Tryd.prog := f37.flatIf dec2i (fun a => [.int .i64 a.1, .int .i64 a.2]) dec2i_enc (fun _ => true) (fun a => .int .i64 (cmpI a.1 a.2)) (fun _ => ⟨trivial, trivial, trivial⟩) (fun _ => trivial) fun a _ => ⟨0, ⟨[], []⟩, by
  obtain ⟨a, b⟩ := a
  rw [cmpi_run, show (a != a) = false by simp, show (b != b) = false by simp]
  simp only [cmpI]
  show branch (.bool (decide (a < b))) _ (branch (.bool (decide (b < a))) _ _) = _
  cases decide (a < b) <;> cases decide (b < a) <;> rfl⟩
theorem p37_nat : p37.Nat := flatIf_nat
noncomputable def p38 : POrc Tryd.prog := f38.flatIf dec2s (fun a => [.str a.1, .str a.2]) dec2s_enc (fun _ => true) (fun a => .int .i64 (cmpS a.1 a.2)) (fun _ => ⟨trivial, trivial, trivial⟩) (fun _ => trivial) fun a _ => ⟨0, ⟨[], []⟩, by
  obtain ⟨a, b⟩ := a
  rw [cmps_run, show (!a.toList == a.toList) = false by simp, show (!b.toList == b.toList) = false by simp]
  simp only [cmpS]
  show branch (.bool (Op.bytesLess a.toList b.toList)) _ (branch (.bool (!(Op.bytesLess a.toList b.toList || a.toList == b.toList))) _ _) = _
  cases Op.bytesLess a.toList b.toList <;> cases a.toList == b.toList <;> rfl⟩
theorem p38_nat : p38.Nat := flatIf_nat
def dec3i : List AV → Option (Int × Int × Int)
  | [x] => match x with
    | .sl 1 true [[x], [y], [z]] => match x with
      | .int .i64 a => match y with
        | .int .i64 b => match z with
          | .int .i64 c => some (a, b, c)
          | _ => none
        | _ => none
      | _ => none
    | _ => none
  | _ => none
theorem dec3i_enc : ∀ l a, dec3i l = some a → l = [.sl 1 true [[.int .i64 a.1], [.int .i64 a.2.1], [.int .i64 a.2.2]]] := by
  intro l a h
  unfold dec3i at h
  split at h
  · split at h
    · split at h
      · split at h
        · split at h
          · cases h; rfl
          · cases h
        · cases h
      · cases h
    · cases h
  · cases h
noncomputable def p36 : POrc Tryd.prog := f36.flatIf dec3i (fun a => [.sl 1 true [[.int .i64 a.1], [.int .i64 a.2.1], [.int .i64 a.2.2]]]) dec3i_enc (fun _ => true) (fun a => .int .i64 (orI a.1 a.2.1 a.2.2))
  (fun _ => ⟨⟨⟨trivial, trivial⟩, ⟨trivial, trivial⟩, ⟨trivial, trivial⟩, trivial⟩, trivial⟩) (fun _ => trivial) fun a _ => ⟨0 + 4, ⟨[], []⟩, by
  obtain ⟨a, b, c⟩ := a
  rw [or_run]
  simp only [orI]
  cases h1 : a != 0
  · cases h2 : b != 0
    · cases h3 : c != 0
      · have : c = 0 := by simpa using h3
        subst this; rfl
      · rfl
    · rfl
  · rfl⟩
theorem p36_nat : p36.Nat := flatIf_nat
end Go.Proofs.YtcfedmheblbdnaaDoor.V

/- The functions' pieces, as told by gen.py. -/
set_option linter.unusedVariables false
set_option maxRecDepth 20000
namespace Go.Proofs.YtcfedmheblbdnaaDoor.V
open Go Go.V Go.RowKit

theorem ze3 : (Tryd.prog.info? 3).bind (·.zero) = some (.int .i64 0) := by kernel_rfl
theorem by3 : (Tryd.prog.info? 3).map (·.bytes) = some 8 := by kernel_rfl
theorem el82 : ElemOf Tryd.prog 82 3 1 8 (.int .i64 0) := ⟨Tryd.underlying82, sz3, by3, ze3, by kernel_rfl, by decide⟩
noncomputable abbrev d73 : TypeDesc := (Tryd.prog.underlying 73).getD .bool
theorem ud73 : Tryd.prog.underlying 73 = some d73 := by kernel_rfl
theorem by24 : (Tryd.prog.info? 24).map (·.bytes) = some 32 := by kernel_rfl
theorem el37 : ElemOf Tryd.prog 37 24 3 32 (.agg #[(.int .i64 0), (.int .i64 0), (.string ⟨#[]⟩)]) := ⟨Tryd.underlying37, sz24, by24, ze24, by kernel_rfl, by decide⟩

/-! ### 45: interlock/value.RightRow$1 (24); results 2; slots: 0 v, 1 v -/
noncomputable def f45_b : Sim Tryd.prog :=
 (.seq (.live [1] (.region 0 [
 ⟨(opBoxF (some 1) 24 (.tmp 0) 0 "value.go:33" #[]).op, none⟩,
 ⟨(opAssign (some 2) (.const (Value.bool false)) 4 "value.go:33" #[]).op, none⟩
 ] (by kernel_rfl)))
 (.seq (.live [2] (.region 1 [
 ⟨(opLoadT (.agg [(.int .i64), (.int .i64), .str]) (some 3) 24 (.tmp 1) d24 ud24 3 sz24 (by kernel_rfl) 24 "value.go:33" #[]).op, none⟩,
 ⟨(opCallP p13 (some 4) [(.tmp 3)] #[24] 4 "value.go:33" #[eD 0]).op, none⟩,
 ⟨(opNot (some 5) 4 (.tmp 4) 4 "value.go:33" #[eD 1]).op, none⟩,
 ⟨(opAssign (some 2) (.tmp 5) 4 "value.go:33" #[eD 2, eC 1, eP 0, eP 1, eP 2]).op, none⟩
 ] (by kernel_rfl)))
 (.live [2] .ret)))

noncomputable def f45 : Fun Tryd.prog where
 id := 45
 fn := Tryd.f45
 hf := Tryd.func45
 hname := by kernel_rfl
 body := f45_b
 hbody := by kernel_rfl
 res := [rTmp 2]
 hres := by kernel_rfl
 n := 6
 hn := by kernel_rfl

/-! ### 62: slices.IndexFunc[interlock/api.Row,interlock/api.Value] (37, 29); results 4; slots: 0 s, 1 f, 2 s, 3 f, 5 i -/
/-- A loop's round; at its head live: 0 s, 1 f, 7 , 8  -/
noncomputable def f62_l0 (Os : List (Orc Tryd.prog)) : Sim Tryd.prog :=
 (.seq (.live [0, 1, 7, 8, 9] (.region 2 [
 ⟨(opBin (some 9) .lss 3 (.tmp 8) (.tmp 7) 3 0 "slices.go:108" #[]).op, none⟩
 ] (by kernel_rfl)))
 (.seq (.cond (.tmp 9)
 .skip
 (.live [] (.exit 0)))
 (.seq (.block 1 (.seq (.live [0, 1, 5, 7, 8] (.region 3 [
 ⟨(opMove (some 10) (.tmp 8) 3 "slices.go:108" #[]).op, none⟩,
 ⟨(opAssign (some 5) (.tmp 10) 3 "slices.go:108" #[eD 0, eP 0]).op, none⟩
 ] (by kernel_rfl)))
 (.seq (.live [0, 1, 5, 7, 8, 16] (.region 4 [
 ⟨(opMove (some 11) (.tmp 1) 29 "slices.go:109" #[]).op, none⟩,
 ⟨(opMove (some 12) (.tmp 0) 37 "slices.go:109" #[]).op, none⟩,
 ⟨(opMove (some 13) (.tmp 5) 3 "slices.go:109" #[]).op, none⟩,
 ⟨(opIndexAddrT (some 14) 37 (.tmp 12) (.tmp 13) 24 3 Tryd.underlying37 sz24 0 "slices.go:109" #[eD 1, eD 2]).op, none⟩,
 ⟨(opLoadT (.agg [(.int .i64), (.int .i64), .str]) (some 15) 24 (.tmp 14) d24 ud24 3 sz24 (by kernel_rfl) 24 "slices.go:109" #[eD 3]).op, none⟩,
 ⟨opCallDyn Os (some 16) 11 [(.tmp 15)] #[24] 4 "slices.go:109" #[eD 0, eD 4], none⟩
 ] (by kernel_rfl)))
 (.cond (.tmp 16)
 (.seq (.live [4] (.region 5 [
 ⟨(opMove (some 17) (.tmp 5) 3 "slices.go:110" #[]).op, none⟩,
 ⟨(opAssign (some 4) (.tmp 17) 3 "slices.go:110" #[eD 0, eP 0]).op, none⟩
 ] (by kernel_rfl)))
 (.live [4] .ret))
 .skip))))
 (.live [0, 1, 7, 8] (.region 6 [
 ⟨(opBin (some 18) .add 3 (.tmp 8) (.const (Value.int IntKind.i64 1)) 3 3 "slices.go:108" #[]).op, none⟩,
 ⟨(opMove (some 8) (.tmp 18) 3 "slices.go:108" #[eD 0]).op, none⟩
 ] (by kernel_rfl))))))

/-- What follows a loop. -/
noncomputable def f62_r0 (Os : List (Orc Tryd.prog)) : Sim Tryd.prog :=
 (.seq (.live [4] (.region 7 [
 ⟨(opAssign (some 4) (.const (Value.int IntKind.i64 (-1))) 3 "slices.go:113" #[]).op, none⟩
 ] (by kernel_rfl)))
 (.live [4] .ret))

noncomputable def f62_b (Os : List (Orc Tryd.prog)) : Sim Tryd.prog :=
 (.seq (.live [0, 1] (.region 0 [
 ⟨(opAssign (some 4) (.const (Value.int IntKind.i64 0)) 3 "slices.go:107" #[]).op, none⟩
 ] (by kernel_rfl)))
 (.seq (.seq (.live [0, 1, 7, 8] (.region 1 [
 ⟨(opMove (some 6) (.tmp 0) 37 "slices.go:108" #[]).op, none⟩,
 ⟨(opLen (some 7) (.tmp 6) 37 (.slice 24) Tryd.underlying37 3 "slices.go:108" #[eD 0]).op, none⟩,
 ⟨(opMove (some 8) (.const (Value.int IntKind.i64 0)) 3 "slices.go:108" #[]).op, none⟩
 ] (by kernel_rfl)))
 (.block 0 (.loop [0, 1, 7, 8] (f62_l0 Os))))
 (f62_r0 Os)))

noncomputable def f62 (Os : List (Orc Tryd.prog)) : Fun Tryd.prog where
 id := 62
 fn := Tryd.f62
 hf := Tryd.func62
 hname := by kernel_rfl
 body := f62_b Os
 hbody := by kernel_rfl
 res := [rTmp 4]
 hres := by kernel_rfl
 n := 19
 hn := by kernel_rfl

/-! ### 44: slices.ContainsFunc[interlock/api.Row,interlock/api.Value] (37, 29); results 4; slots: 0 s, 1 f, 2 s, 3 f -/
noncomputable def f44_b : Sim Tryd.prog :=
 (.seq (.live [0, 1] (.region 0 [
 ⟨(opAssign (some 4) (.const (Value.bool false)) 4 "slices.go:124" #[]).op, none⟩
 ] (by kernel_rfl)))
 (.seq (.live [4] (.region 1 [
 ⟨(opMove (some 5) (.tmp 0) 37 "slices.go:125" #[]).op, none⟩,
 ⟨(opMove (some 6) (.tmp 1) 29 "slices.go:125" #[]).op, none⟩,
 ⟨opCall ((f62 [f45.orc 0]).orc 12) (some 7) [(.tmp 5), (.tmp 6)] #[37, 29] 3 "slices.go:125" #[eD 0, eD 1], none⟩,
 ⟨(opBin (some 8) .geq 3 (.tmp 7) (.const (Value.int IntKind.i64 0)) 3 4 "slices.go:125" #[eD 2]).op, none⟩,
 ⟨(opAssign (some 4) (.tmp 8) 4 "slices.go:125" #[eD 3, eC 2, eP 0, eP 1, eP 2, eP 3]).op, none⟩
 ] (by kernel_rfl)))
 (.live [4] .ret)))

noncomputable def f44 : Fun Tryd.prog where
 id := 44
 fn := Tryd.f44
 hf := Tryd.func44
 hname := by kernel_rfl
 body := f44_b
 hbody := by kernel_rfl
 res := [rTmp 4]
 hres := by kernel_rfl
 n := 9
 hn := by kernel_rfl

/-! ### 26: interlock/value.RightRow (37); results 2; slots: 0 r, 1 r -/
noncomputable def f26_b : Sim Tryd.prog :=
 (.seq (.live [0] (.region 0 [
 ⟨(opAssign (some 2) (.const (Value.bool false)) 4 "value.go:32" #[]).op, none⟩
 ] (by kernel_rfl)))
 (.seq (.live [2] (.region 1 [
 ⟨(opMove (some 3) (.tmp 0) 37 "value.go:33" #[]).op, none⟩,
 ⟨(opLen (some 4) (.tmp 3) 37 (.slice 24) Tryd.underlying37 3 "value.go:33" #[eD 0]).op, none⟩,
 ⟨(opBin (some 5) .leq 3 (.tmp 4) (.const (Value.int IntKind.i64 8)) 3 4 "value.go:33" #[eD 1]).op, none⟩,
 ⟨(opMove (some 6) (.tmp 5) 4 "value.go:33" #[eD 2]).op, none⟩,
 ⟨(opMove (some 7) (.tmp 0) 37 "value.go:33" #[eG 3]).op, (some (3, 6, true))⟩,
 ⟨opCall (f44.orc 0) (some 8) [(.tmp 7), (.func 45)] #[37, 29] 4 "value.go:33" #[eD 4, eC 3, eG 3], (some (3, 6, true))⟩,
 ⟨(opNot (some 9) 4 (.tmp 8) 4 "value.go:33" #[eD 5, eG 3]).op, (some (3, 6, true))⟩,
 ⟨(opPick (some 10) (.tmp 6) (.tmp 9) (.const (Value.bool false)) 4 "value.go:33" #[eD 3, eD 6]).op, none⟩,
 ⟨(opAssign (some 2) (.tmp 10) 4 "value.go:33" #[eD 7, eC 5, eP 0, eP 1, eP 2, eP 3, eP 4, eP 5, eP 6, eP 7]).op, none⟩
 ] (by kernel_rfl)))
 (.live [2] .ret)))

noncomputable def f26 : Fun Tryd.prog where
 id := 26
 fn := Tryd.f26
 hf := Tryd.func26
 hname := by kernel_rfl
 body := f26_b
 hbody := by kernel_rfl
 res := [rTmp 2]
 hres := by kernel_rfl
 n := 11
 hn := by kernel_rfl

/-! ### 42: interlock/bits.Int (3); results 2; slots: 0 n, 1 n, 3 out, 4 u -/
/-- A loop's round; at its head live: 3 out, 4 u -/
noncomputable def f42_l0 : Sim Tryd.prog :=
 (.seq (.seq (.live [3, 4, 8] (.region 3 [
 ⟨(opMove (some 7) (.tmp 4) 84 "bits.go:22" #[]).op, none⟩,
 ⟨(opBin (some 8) .geq 84 (.tmp 7) (.const (Value.int IntKind.u64 128)) 84 4 "bits.go:22" #[eD 0]).op, none⟩
 ] (by kernel_rfl)))
 (.cond (.tmp 8)
 .skip
 (.live [3, 4] (.exit 0))))
 (.seq (.block 1 (.live [3, 4] (.region 5 [
 ⟨(opMove (some 11) (.tmp 3) 46 "bits.go:23" #[]).op, none⟩,
 ⟨(opMove (some 12) (.tmp 4) 84 "bits.go:23" #[]).op, none⟩,
 ⟨(opConvInt (some 13) 84 5 (.tmp 12) (.int .u64) Tryd.underlying84 .u8 Tryd.underlying5 5 "bits.go:23" #[eD 1]).op, none⟩,
 ⟨(opBin (some 14) .or 5 (.tmp 13) (.const (Value.int IntKind.u8 128)) 5 5 "bits.go:23" #[eD 2]).op, none⟩,
 ⟨(opBuildSlice (some 15) 46 1 [(0, (.tmp 14))] 5 1 1 (.int .u8 0) el46 (by kernel_rfl) (by decide) 46 "bits.go:23" #[eD 3]).op, none⟩,
 ⟨(opAppend (some 16) (.tmp 11) (.tmp 15) 46 46 5 1 1 (.int .u8 0) el46 (.slice 5) Tryd.underlying46 rfl 46 "bits.go:23" #[eD 0, eD 4]).op, none⟩,
 ⟨(opAssign (some 3) (.tmp 16) 46 "bits.go:23" #[eD 5, eC 5, eP 0, eP 1, eP 2, eP 3, eP 4, eP 5]).op, none⟩
 ] (by kernel_rfl))))
 (.live [3, 4] (.region 4 [
 ⟨(opMove (some 9) (.tmp 4) 84 "bits.go:22" #[]).op, none⟩,
 ⟨(opBin (some 10) .shr 84 (.tmp 9) (.const (Value.int IntKind.u64 7)) 80 84 "bits.go:22" #[eD 0]).op, none⟩,
 ⟨(opAssign (some 4) (.tmp 10) 84 "bits.go:22" #[eD 1, eP 0, eP 1]).op, none⟩
 ] (by kernel_rfl)))))

/-- What follows a loop. -/
noncomputable def f42_r0 : Sim Tryd.prog :=
 (.seq (.live [2] (.region 6 [
 ⟨(opMove (some 17) (.tmp 3) 46 "bits.go:25" #[]).op, none⟩,
 ⟨(opMove (some 18) (.tmp 4) 84 "bits.go:25" #[]).op, none⟩,
 ⟨(opConvInt (some 19) 84 5 (.tmp 18) (.int .u64) Tryd.underlying84 .u8 Tryd.underlying5 5 "bits.go:25" #[eD 1]).op, none⟩,
 ⟨(opBuildSlice (some 20) 46 1 [(0, (.tmp 19))] 5 1 1 (.int .u8 0) el46 (by kernel_rfl) (by decide) 46 "bits.go:25" #[eD 2]).op, none⟩,
 ⟨(opAppend (some 21) (.tmp 17) (.tmp 20) 46 46 5 1 1 (.int .u8 0) el46 (.slice 5) Tryd.underlying46 rfl 46 "bits.go:25" #[eD 0, eD 3]).op, none⟩,
 ⟨(opAssign (some 2) (.tmp 21) 46 "bits.go:25" #[eD 4, eC 4, eP 0, eP 1, eP 2, eP 3, eP 4]).op, none⟩
 ] (by kernel_rfl)))
 (.live [2] .ret))

noncomputable def f42_b : Sim Tryd.prog :=
 (.seq (.live [0] (.region 0 [
 ⟨(opAssign (some 2) (.const (Value.slice none 0 0)) 46 "bits.go:19" #[]).op, none⟩
 ] (by kernel_rfl)))
 (.seq (.live [0, 3] (.region 1 [
 ⟨(opAssign (some 3) (.const (Value.slice none 0 0)) 46 "bits.go:20" #[]).op, none⟩
 ] (by kernel_rfl)))
 (.seq (.live [3, 4] (.region 2 [
 ⟨(opMove (some 5) (.tmp 0) 3 "bits.go:21" #[]).op, none⟩,
 ⟨opCall (f61.orc 0) (some 6) [(.tmp 5)] #[3] 84 "bits.go:21" #[eD 0], none⟩,
 ⟨(opAssign (some 4) (.tmp 6) 84 "bits.go:21" #[eD 1, eC 1, eP 0, eP 1]).op, none⟩
 ] (by kernel_rfl)))
 (.seq (.block 0 (.loop [3, 4] f42_l0))
 f42_r0))))

noncomputable def f42 : Fun Tryd.prog where
 id := 42
 fn := Tryd.f42
 hf := Tryd.func42
 hname := by kernel_rfl
 body := f42_b
 hbody := by kernel_rfl
 res := [rTmp 2]
 hres := by kernel_rfl
 n := 22
 hn := by kernel_rfl

/-! ### 25: interlock/value.Encode (37); results 2, 3; slots: 0 r, 1 r, 4 out, 5 _, 6 v -/
/-- A loop's round; at its head live: 4 out, 13 , 14 , 15  -/
noncomputable def f25_l0 : Sim Tryd.prog :=
 (.seq (.live [4, 13, 14, 15, 16] (.region 5 [
 ⟨(opBin (some 16) .lss 3 (.tmp 15) (.tmp 14) 3 0 "value.go:84" #[]).op, none⟩
 ] (by kernel_rfl)))
 (.seq (.cond (.tmp 16)
 .skip
 (.live [4] (.exit 0)))
 (.seq (.block 1 (.seq (.live [4, 6, 13, 14, 15] (.region 6 [
 ⟨(opIndexAddrT (some 17) 37 (.tmp 13) (.tmp 15) 24 3 Tryd.underlying37 sz24 0 "value.go:84" #[]).op, none⟩,
 ⟨(opLoadT (.agg [(.int .i64), (.int .i64), .str]) (some 18) 24 (.tmp 17) d24 ud24 3 sz24 (by kernel_rfl) 24 "value.go:84" #[eD 0]).op, none⟩,
 ⟨(opAlloc (some 6) 24 (.agg #[(.int .i64 0), (.int .i64 0), (.string ⟨#[]⟩)]) ze24 0 "value.go:84" #[]).op, none⟩,
 ⟨(opStore none 24 (.tmp 6) (.tmp 18) 3 sz24 0 "value.go:84" #[eD 2, eD 1, eP 0, eP 1, eP 2]).op, none⟩
 ] (by kernel_rfl)))
 (.seq (.live [4, 6, 13, 14, 15] (.region 7 [
 ⟨(opMove (some 19) (.tmp 4) 46 "value.go:85" #[]).op, none⟩,
 ⟨(opFieldAddr (some 20) 24 (.tmp 6) 0 0 1 false fl24_0 (by decide) 0 "value.go:85" #[]).op, none⟩,
 ⟨(opLoadT (.one (.int .i64)) (some 21) 3 (.tmp 20) (.int .i64) Tryd.underlying3 1 sz3 (by kernel_rfl) 3 "value.go:85" #[eD 1]).op, none⟩,
 ⟨opCall (f42.orc 20) (some 22) [(.tmp 21)] #[3] 46 "value.go:85" #[eD 2], none⟩,
 ⟨(opAppend (some 23) (.tmp 19) (.tmp 22) 46 46 5 1 1 (.int .u8 0) el46 (.slice 5) Tryd.underlying46 rfl 46 "value.go:85" #[eD 0, eD 3, eC 3]).op, none⟩,
 ⟨(opAssign (some 4) (.tmp 23) 46 "value.go:85" #[eD 4, eC 4, eP 0, eP 1, eP 2, eP 3, eP 4]).op, none⟩
 ] (by kernel_rfl)))
 (.seq (.live [4, 6, 13, 14, 15, 25] (.region 8 [
 ⟨(opFieldAddr (some 24) 24 (.tmp 6) 0 0 1 false fl24_0 (by decide) 0 "value.go:86" #[]).op, none⟩,
 ⟨(opLoadT (.one (.int .i64)) (some 25) 3 (.tmp 24) (.int .i64) Tryd.underlying3 1 sz3 (by kernel_rfl) 3 "value.go:86" #[eD 0]).op, none⟩
 ] (by kernel_rfl)))
 (.block 2 (.seq (.seq (.live [4, 6, 13, 14, 15, 25, 26] (.region 9 [
 ⟨(opBin (some 27) .eql 3 (.tmp 25) (.const (Value.int IntKind.i64 1)) 3 4 "value.go:87" #[]).op, none⟩,
 ⟨(opAssign (some 26) (.tmp 27) 4 "value.go:87" #[eD 0]).op, none⟩
 ] (by kernel_rfl)))
 (.cond (.tmp 26)
 .skip
 (.live [4, 6, 13, 14, 15, 25, 26] (.region 10 [
 ⟨(opBin (some 28) .eql 3 (.tmp 25) (.const (Value.int IntKind.i64 2)) 3 4 "value.go:87" #[]).op, none⟩,
 ⟨(opAssign (some 26) (.tmp 28) 4 "value.go:87" #[eD 0]).op, none⟩
 ] (by kernel_rfl)))))
 (.cond (.tmp 26)
 (.live [4, 13, 14, 15] (.region 11 [
 ⟨(opMove (some 29) (.tmp 4) 46 "value.go:88" #[]).op, none⟩,
 ⟨(opFieldAddr (some 30) 24 (.tmp 6) 1 1 1 false fl24_1 (by decide) 0 "value.go:88" #[]).op, none⟩,
 ⟨(opLoadT (.one (.int .i64)) (some 31) 3 (.tmp 30) (.int .i64) Tryd.underlying3 1 sz3 (by kernel_rfl) 3 "value.go:88" #[eD 1]).op, none⟩,
 ⟨opCall (f42.orc 20) (some 32) [(.tmp 31)] #[3] 46 "value.go:88" #[eD 2], none⟩,
 ⟨(opAppend (some 33) (.tmp 29) (.tmp 32) 46 46 5 1 1 (.int .u8 0) el46 (.slice 5) Tryd.underlying46 rfl 46 "value.go:88" #[eD 0, eD 3, eC 3]).op, none⟩,
 ⟨(opAssign (some 4) (.tmp 33) 46 "value.go:88" #[eD 4, eC 4, eP 0, eP 1, eP 2, eP 3, eP 4]).op, none⟩
 ] (by kernel_rfl)))
 (.seq (.live [4, 6, 13, 14, 15, 34] (.region 12 [
 ⟨(opBin (some 35) .eql 3 (.tmp 25) (.const (Value.int IntKind.i64 3)) 3 4 "value.go:89" #[]).op, none⟩,
 ⟨(opAssign (some 34) (.tmp 35) 4 "value.go:89" #[eD 0]).op, none⟩
 ] (by kernel_rfl)))
 (.cond (.tmp 34)
 (.live [4, 13, 14, 15] (.region 13 [
 ⟨(opMove (some 36) (.tmp 4) 46 "value.go:90" #[]).op, none⟩,
 ⟨(opFieldAddr (some 37) 24 (.tmp 6) 2 2 1 false fl24_2 (by decide) 0 "value.go:90" #[]).op, none⟩,
 ⟨(opLoadT (.one .str) (some 38) 9 (.tmp 37) .string Tryd.underlying9 1 sz9 (by kernel_rfl) 9 "value.go:90" #[eD 1]).op, none⟩,
 ⟨opCall (Orc.dead 43 Tryd.f43 Tryd.func43 (by kernel_rfl) (by kernel_rfl)) (some 39) [(.tmp 38)] #[9] 46 "value.go:90" #[eD 2], none⟩,
 ⟨(opAppend (some 40) (.tmp 36) (.tmp 39) 46 46 5 1 1 (.int .u8 0) el46 (.slice 5) Tryd.underlying46 rfl 46 "value.go:90" #[eD 0, eD 3, eC 3]).op, none⟩,
 ⟨(opAssign (some 4) (.tmp 40) 46 "value.go:90" #[eD 4, eC 4, eP 0, eP 1, eP 2, eP 3, eP 4]).op, none⟩
 ] (by kernel_rfl)))
 .skip)))))))))
 (.live [4, 13, 14, 15] (.region 14 [
 ⟨(opBin (some 41) .add 3 (.tmp 15) (.const (Value.int IntKind.i64 1)) 3 3 "value.go:84" #[]).op, none⟩,
 ⟨(opMove (some 15) (.tmp 41) 3 "value.go:84" #[eD 0]).op, none⟩
 ] (by kernel_rfl))))))

/-- What follows a loop. -/
noncomputable def f25_r0 : Sim Tryd.prog :=
 (.seq (.live [2, 3] (.region 15 [
 ⟨(opMove (some 42) (.tmp 4) 46 "value.go:93" #[]).op, none⟩,
 ⟨(opAssign (some 2) (.tmp 42) 46 "value.go:93" #[eD 0, eP 0]).op, none⟩,
 ⟨(opAssign (some 3) (.const (Value.bool true)) 4 "value.go:93" #[eC 1, eP 0, eP 1]).op, none⟩
 ] (by kernel_rfl)))
 (.live [2, 3] .ret))

noncomputable def f25_b : Sim Tryd.prog :=
 (.seq (.live [0] (.region 0 [
 ⟨(opAssign (some 2) (.const (Value.slice none 0 0)) 46 "value.go:79" #[]).op, none⟩,
 ⟨(opAssign (some 3) (.const (Value.bool false)) 4 "value.go:79" #[eC 0]).op, none⟩
 ] (by kernel_rfl)))
 (.seq (.seq (.live [0, 9] (.region 1 [
 ⟨(opMove (some 7) (.tmp 0) 37 "value.go:80" #[]).op, none⟩,
 ⟨opCall (f26.orc 0) (some 8) [(.tmp 7)] #[37] 4 "value.go:80" #[eD 0], none⟩,
 ⟨(opNot (some 9) 4 (.tmp 8) 4 "value.go:80" #[eD 1]).op, none⟩
 ] (by kernel_rfl)))
 (.cond (.tmp 9)
 (.seq (.live [2, 3] (.region 2 [
 ⟨(opAssign (some 2) (.const (Value.slice none 0 0)) 46 "value.go:81" #[]).op, none⟩,
 ⟨(opAssign (some 3) (.const (Value.bool false)) 4 "value.go:81" #[eC 0, eP 0]).op, none⟩
 ] (by kernel_rfl)))
 (.live [2, 3] .ret))
 .skip))
 (.seq (.live [0, 4] (.region 3 [
 ⟨(opMove (some 10) (.tmp 0) 37 "value.go:83" #[]).op, none⟩,
 ⟨(opLen (some 11) (.tmp 10) 37 (.slice 24) Tryd.underlying37 3 "value.go:83" #[eD 0]).op, none⟩,
 ⟨opCall (f42.orc 20) (some 12) [(.tmp 11)] #[3] 46 "value.go:83" #[eD 1], none⟩,
 ⟨(opAssign (some 4) (.tmp 12) 46 "value.go:83" #[eD 2, eC 2, eP 0, eP 1, eP 2]).op, none⟩
 ] (by kernel_rfl)))
 (.seq (.seq (.live [4, 13, 14, 15] (.region 4 [
 ⟨(opMove (some 13) (.tmp 0) 37 "value.go:84" #[]).op, none⟩,
 ⟨(opLen (some 14) (.tmp 13) 37 (.slice 24) Tryd.underlying37 3 "value.go:84" #[eD 0]).op, none⟩,
 ⟨(opMove (some 15) (.const (Value.int IntKind.i64 0)) 3 "value.go:84" #[]).op, none⟩
 ] (by kernel_rfl)))
 (.block 0 (.loop [4, 13, 14, 15] f25_l0)))
 f25_r0))))

noncomputable def f25 : Fun Tryd.prog where
 id := 25
 fn := Tryd.f25
 hf := Tryd.func25
 hname := by kernel_rfl
 body := f25_b
 hbody := by kernel_rfl
 res := [rTmp 2, rTmp 3]
 hres := by kernel_rfl
 n := 43
 hn := by kernel_rfl

/-! ### 28: interlock/interlockref00.SameBytes (46, 46); results 4; slots: 0 a, 1 b, 2 a, 3 b, 5 i -/
/-- A loop's round; at its head live: 0 a, 1 b, 5 i -/
noncomputable def f28_l0 : Sim Tryd.prog :=
 (.seq (.seq (.live [0, 1, 5, 14] (.region 4 [
 ⟨(opMove (some 11) (.tmp 5) 3 "ref.go:18" #[]).op, none⟩,
 ⟨(opMove (some 12) (.tmp 0) 46 "ref.go:18" #[]).op, none⟩,
 ⟨(opLen (some 13) (.tmp 12) 46 (.slice 5) Tryd.underlying46 3 "ref.go:18" #[eD 1]).op, none⟩,
 ⟨(opBin (some 14) .lss 3 (.tmp 11) (.tmp 13) 3 4 "ref.go:18" #[eD 0, eD 2]).op, none⟩
 ] (by kernel_rfl)))
 (.cond (.tmp 14)
 .skip
 (.live [] (.exit 0))))
 (.seq (.block 1 (.seq (.live [0, 1, 5, 25] (.draw 6 [
 ⟨.p (opMove (some 17) (.tmp 0) 46 "ref.go:19" #[]), none⟩,
 ⟨.p (opMove (some 18) (.tmp 5) 3 "ref.go:19" #[]), none⟩,
 ⟨.pn (opIndexAddrT (some 19) 46 (.tmp 17) (.tmp 18) 5 1 Tryd.underlying46 sz5 0 "ref.go:19" #[eD 0, eD 1]) opIndexAddrT_nat, none⟩,
 ⟨.qn (opLoadT (.one (.int .u8)) (some 20) 5 (.tmp 19) (.int .u8) Tryd.underlying5 1 sz5 (by kernel_rfl) 5 "ref.go:19" #[eD 2]) opLoadT_nat, none⟩,
 ⟨.p (opMove (some 21) (.tmp 1) 46 "ref.go:19" #[]), none⟩,
 ⟨.p (opMove (some 22) (.tmp 5) 3 "ref.go:19" #[]), none⟩,
 ⟨.pn (opIndexAddrT (some 23) 46 (.tmp 21) (.tmp 22) 5 1 Tryd.underlying46 sz5 0 "ref.go:19" #[eD 4, eD 5]) opIndexAddrT_nat, none⟩,
 ⟨.qn (opLoadT (.one (.int .u8)) (some 24) 5 (.tmp 23) (.int .u8) Tryd.underlying5 1 sz5 (by kernel_rfl) 5 "ref.go:19" #[eD 6]) opLoadT_nat, none⟩,
 ⟨.pn (opBin (some 25) .neq 5 (.tmp 20) (.tmp 24) 5 4 "ref.go:19" #[eD 3, eD 7]) opBin_nat, none⟩
 ] mixed (by kernel_rfl)))
 (.cond (.tmp 25)
 (.seq (.live [4] (.region 7 [
 ⟨(opAssign (some 4) (.const (Value.bool false)) 4 "ref.go:20" #[]).op, none⟩
 ] (by kernel_rfl)))
 (.live [4] .ret))
 .skip)))
 (.live [0, 1, 5] (.region 5 [
 ⟨(opMove (some 15) (.tmp 5) 3 "ref.go:18" #[]).op, none⟩,
 ⟨(opBin (some 16) .add 3 (.tmp 15) (.const (Value.int IntKind.i64 1)) 3 3 "ref.go:18" #[eD 0]).op, none⟩,
 ⟨(opAssign (some 5) (.tmp 16) 3 "ref.go:18" #[eD 1, eP 0, eP 1]).op, none⟩
 ] (by kernel_rfl)))))

/-- What follows a loop. -/
noncomputable def f28_r0 : Sim Tryd.prog :=
 (.seq (.live [4] (.region 8 [
 ⟨(opAssign (some 4) (.const (Value.bool true)) 4 "ref.go:23" #[]).op, none⟩
 ] (by kernel_rfl)))
 (.live [4] .ret))

noncomputable def f28_b : Sim Tryd.prog :=
 (.seq (.live [0, 1] (.region 0 [
 ⟨(opAssign (some 4) (.const (Value.bool false)) 4 "ref.go:14" #[]).op, none⟩
 ] (by kernel_rfl)))
 (.seq (.seq (.live [0, 1, 10] (.region 1 [
 ⟨(opMove (some 6) (.tmp 0) 46 "ref.go:15" #[]).op, none⟩,
 ⟨(opLen (some 7) (.tmp 6) 46 (.slice 5) Tryd.underlying46 3 "ref.go:15" #[eD 0]).op, none⟩,
 ⟨(opMove (some 8) (.tmp 1) 46 "ref.go:15" #[]).op, none⟩,
 ⟨(opLen (some 9) (.tmp 8) 46 (.slice 5) Tryd.underlying46 3 "ref.go:15" #[eD 2]).op, none⟩,
 ⟨(opBin (some 10) .neq 3 (.tmp 7) (.tmp 9) 3 4 "ref.go:15" #[eD 1, eD 3]).op, none⟩
 ] (by kernel_rfl)))
 (.cond (.tmp 10)
 (.seq (.live [4] (.region 2 [
 ⟨(opAssign (some 4) (.const (Value.bool false)) 4 "ref.go:16" #[]).op, none⟩
 ] (by kernel_rfl)))
 (.live [4] .ret))
 .skip))
 (.seq (.seq (.live [0, 1, 5] (.region 3 [
 ⟨(opAssign (some 5) (.const (Value.int IntKind.i64 0)) 3 "ref.go:18" #[]).op, none⟩
 ] (by kernel_rfl)))
 (.block 0 (.loop [0, 1, 5] f28_l0)))
 f28_r0)))

noncomputable def f28 : Fun Tryd.prog where
 id := 28
 fn := Tryd.f28
 hf := Tryd.func28
 hname := by kernel_rfl
 body := f28_b
 hbody := by kernel_rfl
 res := [rTmp 4]
 hres := by kernel_rfl
 n := 26
 hn := by kernel_rfl

/-! ### 21: interlock/value.Order (24, 24); results 4; slots: 0 a, 1 b, 2 a, 3 b -/
noncomputable def f21_b : Sim Tryd.prog :=
 (.seq (.live [2, 3] (.region 0 [
 ⟨(opBoxF (some 2) 24 (.tmp 0) 0 "value.go:37" #[]).op, none⟩,
 ⟨(opBoxF (some 3) 24 (.tmp 1) 0 "value.go:37" #[]).op, none⟩,
 ⟨(opAssign (some 4) (.const (Value.int IntKind.i64 0)) 3 "value.go:37" #[]).op, none⟩
 ] (by kernel_rfl)))
 (.seq (.live [4] (.draw 1 [
 ⟨.pn (opFieldAddr (some 5) 24 (.tmp 2) 0 0 1 false fl24_0 (by decide) 0 "value.go:38" #[]) opFieldAddr_nat, none⟩,
 ⟨.qn (opLoadT (.one (.int .i64)) (some 6) 3 (.tmp 5) (.int .i64) Tryd.underlying3 1 sz3 (by kernel_rfl) 3 "value.go:38" #[eD 0]) opLoadT_nat, none⟩,
 ⟨.pn (opFieldAddr (some 7) 24 (.tmp 3) 0 0 1 false fl24_0 (by decide) 0 "value.go:38" #[]) opFieldAddr_nat, none⟩,
 ⟨.qn (opLoadT (.one (.int .i64)) (some 8) 3 (.tmp 7) (.int .i64) Tryd.underlying3 1 sz3 (by kernel_rfl) 3 "value.go:38" #[eD 2]) opLoadT_nat, none⟩,
 ⟨.pn (opCallP p37 (some 9) [(.tmp 6), (.tmp 8)] #[3, 3] 3 "value.go:38" #[eD 1, eD 3]) (opCallP_nat p37_nat), none⟩,
 ⟨.pn (opFieldAddr (some 10) 24 (.tmp 2) 1 1 1 false fl24_1 (by decide) 0 "value.go:38" #[]) opFieldAddr_nat, none⟩,
 ⟨.qn (opLoadT (.one (.int .i64)) (some 11) 3 (.tmp 10) (.int .i64) Tryd.underlying3 1 sz3 (by kernel_rfl) 3 "value.go:38" #[eD 5]) opLoadT_nat, none⟩,
 ⟨.pn (opFieldAddr (some 12) 24 (.tmp 3) 1 1 1 false fl24_1 (by decide) 0 "value.go:38" #[]) opFieldAddr_nat, none⟩,
 ⟨.qn (opLoadT (.one (.int .i64)) (some 13) 3 (.tmp 12) (.int .i64) Tryd.underlying3 1 sz3 (by kernel_rfl) 3 "value.go:38" #[eD 7]) opLoadT_nat, none⟩,
 ⟨.pn (opCallP p37 (some 14) [(.tmp 11), (.tmp 13)] #[3, 3] 3 "value.go:38" #[eD 6, eD 8, eC 4]) (opCallP_nat p37_nat), none⟩,
 ⟨.pn (opFieldAddr (some 15) 24 (.tmp 2) 2 2 1 false fl24_2 (by decide) 0 "value.go:38" #[]) opFieldAddr_nat, none⟩,
 ⟨.qn (opLoadT (.one .str) (some 16) 9 (.tmp 15) .string Tryd.underlying9 1 sz9 (by kernel_rfl) 9 "value.go:38" #[eD 10]) opLoadT_nat, none⟩,
 ⟨.pn (opFieldAddr (some 17) 24 (.tmp 3) 2 2 1 false fl24_2 (by decide) 0 "value.go:38" #[]) opFieldAddr_nat, none⟩,
 ⟨.qn (opLoadT (.one .str) (some 18) 9 (.tmp 17) .string Tryd.underlying9 1 sz9 (by kernel_rfl) 9 "value.go:38" #[eD 12]) opLoadT_nat, none⟩,
 ⟨.pn (opCallP p38 (some 19) [(.tmp 16), (.tmp 18)] #[9, 9] 3 "value.go:38" #[eD 11, eD 13, eC 9]) (opCallP_nat p38_nat), none⟩,
 ⟨.p (opBuildSlice (some 20) 82 3 [(0, (.tmp 9)), (1, (.tmp 14)), (2, (.tmp 19))] 3 1 8 (.int .i64 0) el82 (by kernel_rfl) (by decide) 82 "value.go:38" #[eD 4, eD 9, eD 14]), none⟩,
 ⟨.pn (opCallP p36 (some 21) [(.tmp 20)] #[82] 3 "value.go:38" #[eD 15, eC 14]) (opCallP_nat p36_nat), none⟩,
 ⟨.p (opAssign (some 4) (.tmp 21) 3 "value.go:38" #[eD 16, eC 16, eP 0, eP 1, eP 2, eP 3, eP 4, eP 5, eP 6, eP 7, eP 8, eP 9, eP 10, eP 11, eP 12, eP 13, eP 14, eP 15, eP 16]), none⟩
 ] mixed (by kernel_rfl)))
 (.live [4] .ret)))

noncomputable def f21 : Fun Tryd.prog where
 id := 21
 fn := Tryd.f21
 hf := Tryd.func21
 hname := by kernel_rfl
 body := f21_b
 hbody := by kernel_rfl
 res := [rTmp 4]
 hres := by kernel_rfl
 n := 22
 hn := by kernel_rfl

/-! ### 76: internal/stringslite.HasPrefix (9, 9); results 4; slots: 0 s, 1 prefix, 2 s, 3 prefix -/
noncomputable def f76_b : Sim Tryd.prog :=
 (.seq (.live [0, 1] (.region 0 [
 ⟨(opAssign (some 4) (.const (Value.bool false)) 4 "strings.go:16" #[]).op, none⟩
 ] (by kernel_rfl)))
 (.seq (.live [4] (.region 1 [
 ⟨(opMove (some 5) (.tmp 0) 9 "strings.go:17" #[]).op, none⟩,
 ⟨(opLen (some 6) (.tmp 5) 9 .string Tryd.underlying9 3 "strings.go:17" #[eD 0]).op, none⟩,
 ⟨(opMove (some 7) (.tmp 1) 9 "strings.go:17" #[]).op, none⟩,
 ⟨(opLen (some 8) (.tmp 7) 9 .string Tryd.underlying9 3 "strings.go:17" #[eD 2]).op, none⟩,
 ⟨(opBin (some 9) .geq 3 (.tmp 6) (.tmp 8) 3 4 "strings.go:17" #[eD 1, eD 3]).op, none⟩,
 ⟨(opMove (some 10) (.tmp 9) 4 "strings.go:17" #[eD 4]).op, none⟩,
 ⟨(opMove (some 11) (.tmp 0) 9 "strings.go:17" #[eG 5]).op, (some (5, 10, true))⟩,
 ⟨(opMove (some 12) (.tmp 1) 9 "strings.go:17" #[eG 5]).op, (some (5, 10, true))⟩,
 ⟨(opLen (some 13) (.tmp 12) 9 .string Tryd.underlying9 3 "strings.go:17" #[eD 7, eG 5]).op, (some (5, 10, true))⟩,
 ⟨(opSliceStr (some 14) 9 (.tmp 11) none (some (.tmp 13)) Tryd.underlying9 9 "strings.go:17" #[eD 6, eD 8, eG 5]).op, (some (5, 10, true))⟩,
 ⟨(opMove (some 15) (.tmp 1) 9 "strings.go:17" #[eG 5]).op, (some (5, 10, true))⟩,
 ⟨(opBinS (some 16) .eql 9 (.tmp 14) (.tmp 15) 9 4 "strings.go:17" #[eD 9, eD 10, eG 5]).op, (some (5, 10, true))⟩,
 ⟨(opPick (some 17) (.tmp 10) (.tmp 16) (.const (Value.bool false)) 4 "strings.go:17" #[eD 5, eD 11]).op, none⟩,
 ⟨(opAssign (some 4) (.tmp 17) 4 "strings.go:17" #[eD 12, eC 5, eP 0, eP 1, eP 2, eP 3, eP 4, eP 5, eP 6, eP 7, eP 8, eP 9, eP 10, eP 11, eP 12]).op, none⟩
 ] (by kernel_rfl)))
 (.live [4] .ret)))

noncomputable def f76 : Fun Tryd.prog where
 id := 76
 fn := Tryd.f76
 hf := Tryd.func76
 hname := by kernel_rfl
 body := f76_b
 hbody := by kernel_rfl
 res := [rTmp 4]
 hres := by kernel_rfl
 n := 18
 hn := by kernel_rfl

/-! ### 67: internal/stringslite.CutPrefix (9, 9); results 4, 5; slots: 0 s, 1 prefix, 2 s, 3 prefix, 4 after, 5 found -/
noncomputable def f67_b : Sim Tryd.prog :=
 (.seq (.live [0, 1] (.region 0 [
 ⟨(opAssign (some 4) (.const (Value.string { data := #[] })) 9 "strings.go:87" #[]).op, none⟩,
 ⟨(opAssign (some 5) (.const (Value.bool false)) 4 "strings.go:87" #[eC 0]).op, none⟩
 ] (by kernel_rfl)))
 (.seq (.seq (.live [0, 1, 9] (.region 1 [
 ⟨(opMove (some 6) (.tmp 0) 9 "strings.go:88" #[]).op, none⟩,
 ⟨(opMove (some 7) (.tmp 1) 9 "strings.go:88" #[]).op, none⟩,
 ⟨opCall (f76.orc 0) (some 8) [(.tmp 6), (.tmp 7)] #[9, 9] 4 "strings.go:88" #[eD 0, eD 1], none⟩,
 ⟨(opNot (some 9) 4 (.tmp 8) 4 "strings.go:88" #[eD 2]).op, none⟩
 ] (by kernel_rfl)))
 (.cond (.tmp 9)
 (.seq (.live [4, 5] (.region 2 [
 ⟨(opMove (some 10) (.tmp 0) 9 "strings.go:89" #[]).op, none⟩,
 ⟨(opAssign (some 4) (.tmp 10) 9 "strings.go:89" #[eD 0, eP 0]).op, none⟩,
 ⟨(opAssign (some 5) (.const (Value.bool false)) 4 "strings.go:89" #[eC 1, eP 0, eP 1]).op, none⟩
 ] (by kernel_rfl)))
 (.live [4, 5] .ret))
 .skip))
 (.seq (.live [4, 5] (.region 3 [
 ⟨(opMove (some 11) (.tmp 0) 9 "strings.go:91" #[]).op, none⟩,
 ⟨(opMove (some 12) (.tmp 1) 9 "strings.go:91" #[]).op, none⟩,
 ⟨(opLen (some 13) (.tmp 12) 9 .string Tryd.underlying9 3 "strings.go:91" #[eD 1]).op, none⟩,
 ⟨(opSliceStr (some 14) 9 (.tmp 11) (some (.tmp 13)) none Tryd.underlying9 9 "strings.go:91" #[eD 0, eD 2]).op, none⟩,
 ⟨(opAssign (some 4) (.tmp 14) 9 "strings.go:91" #[eD 3, eP 0, eP 1, eP 2, eP 3]).op, none⟩,
 ⟨(opAssign (some 5) (.const (Value.bool true)) 4 "strings.go:91" #[eC 4, eP 0, eP 1, eP 2, eP 3, eP 4]).op, none⟩
 ] (by kernel_rfl)))
 (.live [4, 5] .ret))))

noncomputable def f67 : Fun Tryd.prog where
 id := 67
 fn := Tryd.f67
 hf := Tryd.func67
 hname := by kernel_rfl
 body := f67_b
 hbody := by kernel_rfl
 res := [rTmp 4, rTmp 5]
 hres := by kernel_rfl
 n := 15
 hn := by kernel_rfl

/-! ### 50: strings.CutPrefix (9, 9); results 4, 5; slots: 0 s, 1 prefix, 2 s, 3 prefix, 4 after, 5 found -/
noncomputable def f50_b : Sim Tryd.prog :=
 (.seq (.live [0, 1] (.region 0 [
 ⟨(opAssign (some 4) (.const (Value.string { data := #[] })) 9 "strings.go:1279" #[]).op, none⟩,
 ⟨(opAssign (some 5) (.const (Value.bool false)) 4 "strings.go:1279" #[eC 0]).op, none⟩
 ] (by kernel_rfl)))
 (.seq (.live [4, 5] (.region 1 [
 ⟨(opMove (some 6) (.tmp 0) 9 "strings.go:1280" #[]).op, none⟩,
 ⟨(opMove (some 7) (.tmp 1) 9 "strings.go:1280" #[]).op, none⟩,
 ⟨opCall (f67.orc 0) (some 8) [(.tmp 6), (.tmp 7)] #[9, 9] 69 "strings.go:1280" #[eD 0, eD 1], none⟩,
 ⟨(opExtract (some 9) (.tmp 8) 0 9 "strings.go:1280" #[eD 2]).op, none⟩,
 ⟨(opExtract (some 10) (.tmp 8) 1 4 "strings.go:1280" #[eD 2]).op, none⟩,
 ⟨(opAssign (some 4) (.tmp 9) 9 "strings.go:1280" #[eD 3, eC 2, eP 0, eP 1, eP 2, eP 3, eP 4]).op, none⟩,
 ⟨(opAssign (some 5) (.tmp 10) 4 "strings.go:1280" #[eD 4, eC 5, eP 0, eP 1, eP 2, eP 3, eP 4, eP 5]).op, none⟩
 ] (by kernel_rfl)))
 (.live [4, 5] .ret)))

noncomputable def f50 : Fun Tryd.prog where
 id := 50
 fn := Tryd.f50
 hf := Tryd.func50
 hname := by kernel_rfl
 body := f50_b
 hbody := by kernel_rfl
 res := [rTmp 4, rTmp 5]
 hres := by kernel_rfl
 n := 11
 hn := by kernel_rfl

/-! ### 77: internal/stringslite.HasSuffix (9, 9); results 4; slots: 0 s, 1 suffix, 2 s, 3 suffix -/
noncomputable def f77_b : Sim Tryd.prog :=
 (.seq (.live [0, 1] (.region 0 [
 ⟨(opAssign (some 4) (.const (Value.bool false)) 4 "strings.go:20" #[]).op, none⟩
 ] (by kernel_rfl)))
 (.seq (.live [4] (.region 1 [
 ⟨(opMove (some 5) (.tmp 0) 9 "strings.go:21" #[]).op, none⟩,
 ⟨(opLen (some 6) (.tmp 5) 9 .string Tryd.underlying9 3 "strings.go:21" #[eD 0]).op, none⟩,
 ⟨(opMove (some 7) (.tmp 1) 9 "strings.go:21" #[]).op, none⟩,
 ⟨(opLen (some 8) (.tmp 7) 9 .string Tryd.underlying9 3 "strings.go:21" #[eD 2]).op, none⟩,
 ⟨(opBin (some 9) .geq 3 (.tmp 6) (.tmp 8) 3 4 "strings.go:21" #[eD 1, eD 3]).op, none⟩,
 ⟨(opMove (some 10) (.tmp 9) 4 "strings.go:21" #[eD 4]).op, none⟩,
 ⟨(opMove (some 11) (.tmp 0) 9 "strings.go:21" #[eG 5]).op, (some (5, 10, true))⟩,
 ⟨(opMove (some 12) (.tmp 0) 9 "strings.go:21" #[eG 5]).op, (some (5, 10, true))⟩,
 ⟨(opLen (some 13) (.tmp 12) 9 .string Tryd.underlying9 3 "strings.go:21" #[eD 7, eG 5]).op, (some (5, 10, true))⟩,
 ⟨(opMove (some 14) (.tmp 1) 9 "strings.go:21" #[eG 5]).op, (some (5, 10, true))⟩,
 ⟨(opLen (some 15) (.tmp 14) 9 .string Tryd.underlying9 3 "strings.go:21" #[eD 9, eG 5]).op, (some (5, 10, true))⟩,
 ⟨(opBin (some 16) .sub 3 (.tmp 13) (.tmp 15) 3 3 "strings.go:21" #[eD 8, eD 10, eG 5]).op, (some (5, 10, true))⟩,
 ⟨(opSliceStr (some 17) 9 (.tmp 11) (some (.tmp 16)) none Tryd.underlying9 9 "strings.go:21" #[eD 6, eD 11, eG 5]).op, (some (5, 10, true))⟩,
 ⟨(opMove (some 18) (.tmp 1) 9 "strings.go:21" #[eG 5]).op, (some (5, 10, true))⟩,
 ⟨(opBinS (some 19) .eql 9 (.tmp 17) (.tmp 18) 9 4 "strings.go:21" #[eD 12, eD 13, eG 5]).op, (some (5, 10, true))⟩,
 ⟨(opPick (some 20) (.tmp 10) (.tmp 19) (.const (Value.bool false)) 4 "strings.go:21" #[eD 5, eD 14]).op, none⟩,
 ⟨(opAssign (some 4) (.tmp 20) 4 "strings.go:21" #[eD 15, eC 5, eP 0, eP 1, eP 2, eP 3, eP 4, eP 5, eP 6, eP 7, eP 8, eP 9, eP 10, eP 11, eP 12, eP 13, eP 14, eP 15]).op, none⟩
 ] (by kernel_rfl)))
 (.live [4] .ret)))

noncomputable def f77 : Fun Tryd.prog where
 id := 77
 fn := Tryd.f77
 hf := Tryd.func77
 hname := by kernel_rfl
 body := f77_b
 hbody := by kernel_rfl
 res := [rTmp 4]
 hres := by kernel_rfl
 n := 21
 hn := by kernel_rfl

/-! ### 68: internal/stringslite.CutSuffix (9, 9); results 4, 5; slots: 0 s, 1 suffix, 2 s, 3 suffix, 4 before, 5 found -/
noncomputable def f68_b : Sim Tryd.prog :=
 (.seq (.live [0, 1] (.region 0 [
 ⟨(opAssign (some 4) (.const (Value.string { data := #[] })) 9 "strings.go:94" #[]).op, none⟩,
 ⟨(opAssign (some 5) (.const (Value.bool false)) 4 "strings.go:94" #[eC 0]).op, none⟩
 ] (by kernel_rfl)))
 (.seq (.seq (.live [0, 1, 9] (.region 1 [
 ⟨(opMove (some 6) (.tmp 0) 9 "strings.go:95" #[]).op, none⟩,
 ⟨(opMove (some 7) (.tmp 1) 9 "strings.go:95" #[]).op, none⟩,
 ⟨opCall (f77.orc 0) (some 8) [(.tmp 6), (.tmp 7)] #[9, 9] 4 "strings.go:95" #[eD 0, eD 1], none⟩,
 ⟨(opNot (some 9) 4 (.tmp 8) 4 "strings.go:95" #[eD 2]).op, none⟩
 ] (by kernel_rfl)))
 (.cond (.tmp 9)
 (.seq (.live [4, 5] (.region 2 [
 ⟨(opMove (some 10) (.tmp 0) 9 "strings.go:96" #[]).op, none⟩,
 ⟨(opAssign (some 4) (.tmp 10) 9 "strings.go:96" #[eD 0, eP 0]).op, none⟩,
 ⟨(opAssign (some 5) (.const (Value.bool false)) 4 "strings.go:96" #[eC 1, eP 0, eP 1]).op, none⟩
 ] (by kernel_rfl)))
 (.live [4, 5] .ret))
 .skip))
 (.seq (.live [4, 5] (.region 3 [
 ⟨(opMove (some 11) (.tmp 0) 9 "strings.go:98" #[]).op, none⟩,
 ⟨(opMove (some 12) (.tmp 0) 9 "strings.go:98" #[]).op, none⟩,
 ⟨(opLen (some 13) (.tmp 12) 9 .string Tryd.underlying9 3 "strings.go:98" #[eD 1]).op, none⟩,
 ⟨(opMove (some 14) (.tmp 1) 9 "strings.go:98" #[]).op, none⟩,
 ⟨(opLen (some 15) (.tmp 14) 9 .string Tryd.underlying9 3 "strings.go:98" #[eD 3]).op, none⟩,
 ⟨(opBin (some 16) .sub 3 (.tmp 13) (.tmp 15) 3 3 "strings.go:98" #[eD 2, eD 4]).op, none⟩,
 ⟨(opSliceStr (some 17) 9 (.tmp 11) none (some (.tmp 16)) Tryd.underlying9 9 "strings.go:98" #[eD 0, eD 5]).op, none⟩,
 ⟨(opAssign (some 4) (.tmp 17) 9 "strings.go:98" #[eD 6, eP 0, eP 1, eP 2, eP 3, eP 4, eP 5, eP 6]).op, none⟩,
 ⟨(opAssign (some 5) (.const (Value.bool true)) 4 "strings.go:98" #[eC 7, eP 0, eP 1, eP 2, eP 3, eP 4, eP 5, eP 6, eP 7]).op, none⟩
 ] (by kernel_rfl)))
 (.live [4, 5] .ret))))

noncomputable def f68 : Fun Tryd.prog where
 id := 68
 fn := Tryd.f68
 hf := Tryd.func68
 hname := by kernel_rfl
 body := f68_b
 hbody := by kernel_rfl
 res := [rTmp 4, rTmp 5]
 hres := by kernel_rfl
 n := 18
 hn := by kernel_rfl

/-! ### 51: strings.CutSuffix (9, 9); results 4, 5; slots: 0 s, 1 suffix, 2 s, 3 suffix, 4 before, 5 found -/
noncomputable def f51_b : Sim Tryd.prog :=
 (.seq (.live [0, 1] (.region 0 [
 ⟨(opAssign (some 4) (.const (Value.string { data := #[] })) 9 "strings.go:1287" #[]).op, none⟩,
 ⟨(opAssign (some 5) (.const (Value.bool false)) 4 "strings.go:1287" #[eC 0]).op, none⟩
 ] (by kernel_rfl)))
 (.seq (.live [4, 5] (.region 1 [
 ⟨(opMove (some 6) (.tmp 0) 9 "strings.go:1288" #[]).op, none⟩,
 ⟨(opMove (some 7) (.tmp 1) 9 "strings.go:1288" #[]).op, none⟩,
 ⟨opCall (f68.orc 0) (some 8) [(.tmp 6), (.tmp 7)] #[9, 9] 69 "strings.go:1288" #[eD 0, eD 1], none⟩,
 ⟨(opExtract (some 9) (.tmp 8) 0 9 "strings.go:1288" #[eD 2]).op, none⟩,
 ⟨(opExtract (some 10) (.tmp 8) 1 4 "strings.go:1288" #[eD 2]).op, none⟩,
 ⟨(opAssign (some 4) (.tmp 9) 9 "strings.go:1288" #[eD 3, eC 2, eP 0, eP 1, eP 2, eP 3, eP 4]).op, none⟩,
 ⟨(opAssign (some 5) (.tmp 10) 4 "strings.go:1288" #[eD 4, eC 5, eP 0, eP 1, eP 2, eP 3, eP 4, eP 5]).op, none⟩
 ] (by kernel_rfl)))
 (.live [4, 5] .ret)))

noncomputable def f51 : Fun Tryd.prog where
 id := 51
 fn := Tryd.f51
 hf := Tryd.func51
 hname := by kernel_rfl
 body := f51_b
 hbody := by kernel_rfl
 res := [rTmp 4, rTmp 5]
 hres := by kernel_rfl
 n := 11
 hn := by kernel_rfl

/-! ### 29: interlock/value.parse (9); results 2, 3; slots: 0 s, 1 s, 4 inner, 5 ok, 6 inner, 7 ok, 8 text, 9 n, 10 e -/
noncomputable def f29_b : Sim Tryd.prog :=
 (.seq (.live [0, 2] (.region 0 [
 ⟨(opAlloc (some 2) 24 (.agg #[(.int .i64 0), (.int .i64 0), (.string ⟨#[]⟩)]) ze24 0 "value.go:174" #[]).op, none⟩,
 ⟨(opAssign (some 3) (.const (Value.bool false)) 4 "value.go:174" #[]).op, none⟩
 ] (by kernel_rfl)))
 (.seq (.seq (.live [0, 2, 4, 5] (.region 1 [
 ⟨(opMove (some 12) (.tmp 0) 9 "value.go:175" #[]).op, none⟩,
 ⟨opCall (f50.orc 0) (some 13) [(.tmp 12), (.const (Value.string { data := #[34] }))] #[9, 9] 69 "value.go:175" #[eD 0], none⟩,
 ⟨(opMove (some 11) (.tmp 13) 69 "value.go:175" #[eD 1]).op, none⟩,
 ⟨(opExtract (some 14) (.tmp 11) 0 9 "value.go:175" #[eD 2]).op, none⟩,
 ⟨(opExtract (some 15) (.tmp 11) 1 4 "value.go:175" #[eD 2, { on := 5, ground := (Ground.gcOnly Departure.lateStores) }]).op, none⟩,
 ⟨(opAssign (some 4) (.tmp 14) 9 "value.go:175" #[eD 3, eC 1, eP 0, eP 1, eP 2, eP 3, { on := 4, ground := (Ground.textOnly Departure.lateStores) }]).op, none⟩,
 ⟨(opAssign (some 5) (.tmp 15) 4 "value.go:175" #[eD 4, eC 5, eP 0, eP 1, eP 2, eP 3, eP 4, eP 5]).op, none⟩
 ] (by kernel_rfl)))
 (.seq (.live [0, 2, 4, 16] (.region 2 [
 ⟨(opMove (some 16) (.tmp 5) 4 "value.go:175" #[]).op, none⟩
 ] (by kernel_rfl)))
 (.cond (.tmp 16)
 (.seq (.live [2, 6, 7] (.region 3 [
 ⟨(opMove (some 18) (.tmp 4) 9 "value.go:176" #[]).op, none⟩,
 ⟨opCall (f51.orc 0) (some 19) [(.tmp 18), (.const (Value.string { data := #[34] }))] #[9, 9] 69 "value.go:176" #[eD 0], none⟩,
 ⟨(opMove (some 17) (.tmp 19) 69 "value.go:176" #[eD 1]).op, none⟩,
 ⟨(opExtract (some 20) (.tmp 17) 0 9 "value.go:176" #[eD 2]).op, none⟩,
 ⟨(opExtract (some 21) (.tmp 17) 1 4 "value.go:176" #[eD 2, { on := 5, ground := (Ground.gcOnly Departure.lateStores) }]).op, none⟩,
 ⟨(opAssign (some 6) (.tmp 20) 9 "value.go:176" #[eD 3, eC 1, eP 0, eP 1, eP 2, eP 3, { on := 4, ground := (Ground.textOnly Departure.lateStores) }]).op, none⟩,
 ⟨(opAssign (some 7) (.tmp 21) 4 "value.go:176" #[eD 4, eC 5, eP 0, eP 1, eP 2, eP 3, eP 4, eP 5]).op, none⟩
 ] (by kernel_rfl)))
 (.seq (.seq (.live [2, 6, 23] (.region 4 [
 ⟨(opMove (some 22) (.tmp 7) 4 "value.go:177" #[]).op, none⟩,
 ⟨(opNot (some 23) 4 (.tmp 22) 4 "value.go:177" #[eD 0]).op, none⟩
 ] (by kernel_rfl)))
 (.cond (.tmp 23)
 (.seq (.live [2, 3] (.region 5 [
 ⟨(opBuild (some 24) 24 #[(.int .i64 0), (.int .i64 0), (.string ⟨#[]⟩)] [] ze24 (by kernel_rfl) 24 "value.go:178" #[]).op, none⟩,
 ⟨(opStore none 24 (.tmp 2) (.tmp 24) 3 sz24 0 "value.go:178" #[eD 0, eP 0]).op, none⟩,
 ⟨(opAssign (some 3) (.const (Value.bool false)) 4 "value.go:178" #[eC 1, eP 0, eP 1]).op, none⟩
 ] (by kernel_rfl)))
 (.live [2, 3] .ret))
 .skip))
 (.seq (.live [2, 7, 8] (.region 6 [
 ⟨(opMove (some 26) (.tmp 6) 9 "value.go:180" #[]).op, none⟩,
 ⟨(opCallP p52 (some 27) [(.tmp 26)] #[9] 69 "value.go:180" #[eD 0]).op, none⟩,
 ⟨(opMove (some 25) (.tmp 27) 69 "value.go:180" #[eD 1]).op, none⟩,
 ⟨(opExtract (some 28) (.tmp 25) 0 9 "value.go:180" #[eD 2]).op, none⟩,
 ⟨(opExtract (some 29) (.tmp 25) 1 4 "value.go:180" #[eD 2, { on := 5, ground := (Ground.gcOnly Departure.lateStores) }]).op, none⟩,
 ⟨(opAssign (some 8) (.tmp 28) 9 "value.go:180" #[eD 3, eC 1, eP 0, eP 1, eP 2, eP 3, { on := 4, ground := (Ground.textOnly Departure.lateStores) }]).op, none⟩,
 ⟨(opAssign (some 7) (.tmp 29) 4 "value.go:180" #[eD 4, eC 5, eP 0, eP 1, eP 2, eP 3, eP 4, eP 5]).op, none⟩
 ] (by kernel_rfl)))
 (.seq (.live [2, 3] (.region 7 [
 ⟨(opMove (some 30) (.tmp 8) 9 "value.go:181" #[]).op, none⟩,
 ⟨(opBuild (some 31) 24 #[(.int .i64 0), (.int .i64 0), (.string ⟨#[]⟩)] [(0, 0, 1, (.const (Value.int IntKind.i64 3))), (2, 2, 1, (.tmp 30))] ze24 (by kernel_rfl) 24 "value.go:181" #[eD 0]).op, none⟩,
 ⟨(opMove (some 32) (.tmp 7) 4 "value.go:181" #[{ on := 3, ground := (Ground.gcOnly Departure.lateStores) }]).op, none⟩,
 ⟨(opStore none 24 (.tmp 2) (.tmp 31) 3 sz24 0 "value.go:181" #[eD 1, eP 0, eP 1, { on := 2, ground := (Ground.textOnly Departure.lateStores) }]).op, none⟩,
 ⟨(opAssign (some 3) (.tmp 32) 4 "value.go:181" #[eD 2, eC 3, eP 0, eP 1, eP 2, eP 3]).op, none⟩
 ] (by kernel_rfl)))
 (.live [2, 3] .ret)))))
 .skip)))
 (.seq (.seq (.live [0, 2, 33] (.region 8 [
 ⟨(opMove (some 33) (.tmp 0) 9 "value.go:183" #[]).op, none⟩
 ] (by kernel_rfl)))
 (.block 0 (.seq (.live [0, 2, 33, 34] (.region 9 [
 ⟨(opBinS (some 35) .eql 9 (.tmp 33) (.const (Value.string { data := #[110, 117, 108, 108] })) 9 4 "value.go:184" #[]).op, none⟩,
 ⟨(opAssign (some 34) (.tmp 35) 4 "value.go:184" #[eD 0]).op, none⟩
 ] (by kernel_rfl)))
 (.cond (.tmp 34)
 (.seq (.live [2, 3] (.region 10 [
 ⟨(opBuild (some 36) 24 #[(.int .i64 0), (.int .i64 0), (.string ⟨#[]⟩)] [] ze24 (by kernel_rfl) 24 "value.go:185" #[]).op, none⟩,
 ⟨(opStore none 24 (.tmp 2) (.tmp 36) 3 sz24 0 "value.go:185" #[eD 0, eP 0]).op, none⟩,
 ⟨(opAssign (some 3) (.const (Value.bool true)) 4 "value.go:185" #[eC 1, eP 0, eP 1]).op, none⟩
 ] (by kernel_rfl)))
 (.live [2, 3] .ret))
 (.seq (.live [0, 2, 33, 37] (.region 11 [
 ⟨(opBinS (some 38) .eql 9 (.tmp 33) (.const (Value.string { data := #[102, 97, 108, 115, 101] })) 9 4 "value.go:186" #[]).op, none⟩,
 ⟨(opAssign (some 37) (.tmp 38) 4 "value.go:186" #[eD 0]).op, none⟩
 ] (by kernel_rfl)))
 (.cond (.tmp 37)
 (.seq (.live [2, 3] (.region 12 [
 ⟨(opBuild (some 39) 24 #[(.int .i64 0), (.int .i64 0), (.string ⟨#[]⟩)] [(0, 0, 1, (.const (Value.int IntKind.i64 2)))] ze24 (by kernel_rfl) 24 "value.go:187" #[]).op, none⟩,
 ⟨(opStore none 24 (.tmp 2) (.tmp 39) 3 sz24 0 "value.go:187" #[eD 0, eP 0]).op, none⟩,
 ⟨(opAssign (some 3) (.const (Value.bool true)) 4 "value.go:187" #[eC 1, eP 0, eP 1]).op, none⟩
 ] (by kernel_rfl)))
 (.live [2, 3] .ret))
 (.seq (.live [0, 2, 40] (.region 13 [
 ⟨(opBinS (some 41) .eql 9 (.tmp 33) (.const (Value.string { data := #[116, 114, 117, 101] })) 9 4 "value.go:188" #[]).op, none⟩,
 ⟨(opAssign (some 40) (.tmp 41) 4 "value.go:188" #[eD 0]).op, none⟩
 ] (by kernel_rfl)))
 (.cond (.tmp 40)
 (.seq (.live [2, 3] (.region 14 [
 ⟨(opBuild (some 42) 24 #[(.int .i64 0), (.int .i64 0), (.string ⟨#[]⟩)] [(0, 0, 1, (.const (Value.int IntKind.i64 2))), (1, 1, 1, (.const (Value.int IntKind.i64 1)))] ze24 (by kernel_rfl) 24 "value.go:189" #[]).op, none⟩,
 ⟨(opStore none 24 (.tmp 2) (.tmp 42) 3 sz24 0 "value.go:189" #[eD 0, eP 0]).op, none⟩,
 ⟨(opAssign (some 3) (.const (Value.bool true)) 4 "value.go:189" #[eC 1, eP 0, eP 1]).op, none⟩
 ] (by kernel_rfl)))
 (.live [2, 3] .ret))
 .skip))))))))
 (.seq (.live [2, 9, 10] (.region 15 [
 ⟨(opMove (some 44) (.tmp 0) 9 "value.go:191" #[]).op, none⟩,
 ⟨opCall (Orc.dead 53 Tryd.f53 Tryd.func53 (by kernel_rfl) (by kernel_rfl)) (some 45) [(.tmp 44)] #[9] 74 "value.go:191" #[eD 0], none⟩,
 ⟨(opMove (some 43) (.tmp 45) 74 "value.go:191" #[eD 1]).op, none⟩,
 ⟨(opExtract (some 46) (.tmp 43) 0 3 "value.go:191" #[eD 2]).op, none⟩,
 ⟨(opExtract (some 47) (.tmp 43) 1 73 "value.go:191" #[eD 2, { on := 5, ground := (Ground.gcOnly Departure.lateStores) }]).op, none⟩,
 ⟨(opAssign (some 9) (.tmp 46) 3 "value.go:191" #[eD 3, eC 1, eP 0, eP 1, eP 2, eP 3, { on := 4, ground := (Ground.textOnly Departure.lateStores) }]).op, none⟩,
 ⟨(opAssign (some 10) (.tmp 47) 73 "value.go:191" #[eD 4, eC 5, eP 0, eP 1, eP 2, eP 3, eP 4, eP 5]).op, none⟩
 ] (by kernel_rfl)))
 (.seq (.seq (.live [2, 9, 49] (.region 16 [
 ⟨(opMove (some 48) (.tmp 10) 73 "value.go:192" #[]).op, none⟩,
 ⟨(opNe (some 49) 73 d73 ud73 (.tmp 48) (.const Value.nilIface) (.inl rfl) 73 4 "value.go:192" #[eD 0]).op, none⟩
 ] (by kernel_rfl)))
 (.cond (.tmp 49)
 (.seq (.live [2, 3] (.region 17 [
 ⟨(opBuild (some 50) 24 #[(.int .i64 0), (.int .i64 0), (.string ⟨#[]⟩)] [] ze24 (by kernel_rfl) 24 "value.go:193" #[]).op, none⟩,
 ⟨(opStore none 24 (.tmp 2) (.tmp 50) 3 sz24 0 "value.go:193" #[eD 0, eP 0]).op, none⟩,
 ⟨(opAssign (some 3) (.const (Value.bool false)) 4 "value.go:193" #[eC 1, eP 0, eP 1]).op, none⟩
 ] (by kernel_rfl)))
 (.live [2, 3] .ret))
 .skip))
 (.seq (.live [2, 3] (.region 18 [
 ⟨(opMove (some 51) (.tmp 9) 3 "value.go:195" #[]).op, none⟩,
 ⟨(opBuild (some 52) 24 #[(.int .i64 0), (.int .i64 0), (.string ⟨#[]⟩)] [(0, 0, 1, (.const (Value.int IntKind.i64 1))), (1, 1, 1, (.tmp 51))] ze24 (by kernel_rfl) 24 "value.go:195" #[eD 0]).op, none⟩,
 ⟨(opStore none 24 (.tmp 2) (.tmp 52) 3 sz24 0 "value.go:195" #[eD 1, eP 0, eP 1]).op, none⟩,
 ⟨(opAssign (some 3) (.const (Value.bool true)) 4 "value.go:195" #[eC 2, eP 0, eP 1, eP 2]).op, none⟩
 ] (by kernel_rfl)))
 (.live [2, 3] .ret)))))))

noncomputable def f29 : Fun Tryd.prog where
 id := 29
 fn := Tryd.f29
 hf := Tryd.func29
 hname := by kernel_rfl
 body := f29_b
 hbody := by kernel_rfl
 res := [rCell 2 24 d24 ud24 3 sz24, rTmp 3]
 hres := by kernel_rfl
 n := 53
 hn := by kernel_rfl

/-! ### 12: interlock/value.Show (24); results 2; slots: 0 v, 1 v -/
noncomputable def f12_b : Sim Tryd.prog :=
 (.seq (.live [1] (.region 0 [
 ⟨(opBoxF (some 1) 24 (.tmp 0) 0 "value.go:138" #[]).op, none⟩,
 ⟨(opAssign (some 2) (.const (Value.string { data := #[] })) 9 "value.go:138" #[]).op, none⟩
 ] (by kernel_rfl)))
 (.seq (.block 0 (.seq (.live [1, 3] (.region 1 [
 ⟨(opLoadT (.agg [(.int .i64), (.int .i64), .str]) (some 4) 24 (.tmp 1) d24 ud24 3 sz24 (by kernel_rfl) 24 "value.go:140" #[]).op, none⟩,
 ⟨(opCallP p13 (some 5) [(.tmp 4)] #[24] 4 "value.go:140" #[eD 0]).op, none⟩,
 ⟨(opNot (some 6) 4 (.tmp 5) 4 "value.go:140" #[eD 1]).op, none⟩,
 ⟨(opAssign (some 3) (.tmp 6) 4 "value.go:140" #[eD 2, eC 1]).op, none⟩
 ] (by kernel_rfl)))
 (.cond (.tmp 3)
 (.seq (.live [2] (.region 2 [
 ⟨(opAssign (some 2) (.const (Value.string { data := #[63] })) 9 "value.go:141" #[]).op, none⟩
 ] (by kernel_rfl)))
 (.live [2] .ret))
 (.seq (.live [1, 7] (.region 3 [
 ⟨(opFieldAddr (some 8) 24 (.tmp 1) 0 0 1 false fl24_0 (by decide) 0 "value.go:142" #[]).op, none⟩,
 ⟨(opLoadT (.one (.int .i64)) (some 9) 3 (.tmp 8) (.int .i64) Tryd.underlying3 1 sz3 (by kernel_rfl) 3 "value.go:142" #[eD 0]).op, none⟩,
 ⟨(opBin (some 10) .eql 3 (.tmp 9) (.const (Value.int IntKind.i64 1)) 3 4 "value.go:142" #[eD 1]).op, none⟩,
 ⟨(opAssign (some 7) (.tmp 10) 4 "value.go:142" #[eD 2]).op, none⟩
 ] (by kernel_rfl)))
 (.cond (.tmp 7)
 (.seq (.live [2] (.region 4 [
 ⟨(opFieldAddr (some 11) 24 (.tmp 1) 1 1 1 false fl24_1 (by decide) 0 "value.go:143" #[]).op, none⟩,
 ⟨(opLoadT (.one (.int .i64)) (some 12) 3 (.tmp 11) (.int .i64) Tryd.underlying3 1 sz3 (by kernel_rfl) 3 "value.go:143" #[eD 0]).op, none⟩,
 ⟨opCall (Orc.dead 32 Tryd.f32 Tryd.func32 (by kernel_rfl) (by kernel_rfl)) (some 13) [(.tmp 12)] #[3] 9 "value.go:143" #[eD 1], none⟩,
 ⟨(opAssign (some 2) (.tmp 13) 9 "value.go:143" #[eD 2, eC 2, eP 0, eP 1, eP 2]).op, none⟩
 ] (by kernel_rfl)))
 (.live [2] .ret))
 (.seq (.live [1, 14] (.region 5 [
 ⟨(opFieldAddr (some 15) 24 (.tmp 1) 0 0 1 false fl24_0 (by decide) 0 "value.go:144" #[]).op, none⟩,
 ⟨(opLoadT (.one (.int .i64)) (some 16) 3 (.tmp 15) (.int .i64) Tryd.underlying3 1 sz3 (by kernel_rfl) 3 "value.go:144" #[eD 0]).op, none⟩,
 ⟨(opBin (some 17) .eql 3 (.tmp 16) (.const (Value.int IntKind.i64 2)) 3 4 "value.go:144" #[eD 1]).op, none⟩,
 ⟨(opAssign (some 14) (.tmp 17) 4 "value.go:144" #[eD 2]).op, none⟩
 ] (by kernel_rfl)))
 (.cond (.tmp 14)
 (.seq (.live [2] (.region 6 [
 ⟨(opFieldAddr (some 18) 24 (.tmp 1) 1 1 1 false fl24_1 (by decide) 0 "value.go:145" #[]).op, none⟩,
 ⟨(opLoadT (.one (.int .i64)) (some 19) 3 (.tmp 18) (.int .i64) Tryd.underlying3 1 sz3 (by kernel_rfl) 3 "value.go:145" #[eD 0]).op, none⟩,
 ⟨(opBin (some 20) .eql 3 (.tmp 19) (.const (Value.int IntKind.i64 1)) 3 4 "value.go:145" #[eD 1]).op, none⟩,
 ⟨opCall (Orc.dead 33 Tryd.f33 Tryd.func33 (by kernel_rfl) (by kernel_rfl)) (some 21) [(.tmp 20)] #[4] 9 "value.go:145" #[eD 2], none⟩,
 ⟨(opAssign (some 2) (.tmp 21) 9 "value.go:145" #[eD 3, eC 3, eP 0, eP 1, eP 2, eP 3]).op, none⟩
 ] (by kernel_rfl)))
 (.live [2] .ret))
 (.seq (.live [1, 22] (.region 7 [
 ⟨(opFieldAddr (some 23) 24 (.tmp 1) 0 0 1 false fl24_0 (by decide) 0 "value.go:146" #[]).op, none⟩,
 ⟨(opLoadT (.one (.int .i64)) (some 24) 3 (.tmp 23) (.int .i64) Tryd.underlying3 1 sz3 (by kernel_rfl) 3 "value.go:146" #[eD 0]).op, none⟩,
 ⟨(opBin (some 25) .eql 3 (.tmp 24) (.const (Value.int IntKind.i64 3)) 3 4 "value.go:146" #[eD 1]).op, none⟩,
 ⟨(opAssign (some 22) (.tmp 25) 4 "value.go:146" #[eD 2]).op, none⟩
 ] (by kernel_rfl)))
 (.cond (.tmp 22)
 (.seq (.live [2] (.region 8 [
 ⟨(opFieldAddr (some 26) 24 (.tmp 1) 2 2 1 false fl24_2 (by decide) 0 "value.go:147" #[]).op, none⟩,
 ⟨(opLoadT (.one .str) (some 27) 9 (.tmp 26) .string Tryd.underlying9 1 sz9 (by kernel_rfl) 9 "value.go:147" #[eD 0]).op, none⟩,
 ⟨(opCallP p34 (some 28) [(.tmp 27)] #[9] 9 "value.go:147" #[eD 1]).op, none⟩,
 ⟨(opAssign (some 2) (.tmp 28) 9 "value.go:147" #[eD 2, eC 2, eP 0, eP 1, eP 2]).op, none⟩
 ] (by kernel_rfl)))
 (.live [2] .ret))
 .skip)))))))))
 (.seq (.live [2] (.region 9 [
 ⟨(opAssign (some 2) (.const (Value.string { data := #[110, 117, 108, 108] })) 9 "value.go:149" #[]).op, none⟩
 ] (by kernel_rfl)))
 (.live [2] .ret))))

noncomputable def f12 : Fun Tryd.prog where
 id := 12
 fn := Tryd.f12
 hf := Tryd.func12
 hname := by kernel_rfl
 body := f12_b
 hbody := by kernel_rfl
 res := [rTmp 2]
 hres := by kernel_rfl
 n := 29
 hn := by kernel_rfl

/-! ### 10: interlock/value.Read (9); results 2, 3; slots: 0 s, 1 s, 4 v, 5 ok -/
noncomputable def f10_b : Sim Tryd.prog :=
 (.seq (.live [0, 2] (.region 0 [
 ⟨(opAlloc (some 2) 24 (.agg #[(.int .i64 0), (.int .i64 0), (.string ⟨#[]⟩)]) ze24 0 "value.go:199" #[]).op, none⟩,
 ⟨(opAssign (some 3) (.const (Value.bool false)) 4 "value.go:199" #[]).op, none⟩
 ] (by kernel_rfl)))
 (.seq (.live [0, 2, 4, 5] (.region 1 [
 ⟨(opMove (some 7) (.tmp 0) 9 "value.go:200" #[]).op, none⟩,
 ⟨opCall (f29.orc 0) (some 8) [(.tmp 7)] #[9] 25 "value.go:200" #[eD 0], none⟩,
 ⟨(opMove (some 6) (.tmp 8) 25 "value.go:200" #[eD 1]).op, none⟩,
 ⟨(opExtract (some 9) (.tmp 6) 0 24 "value.go:200" #[eD 2]).op, none⟩,
 ⟨(opExtract (some 10) (.tmp 6) 1 4 "value.go:200" #[eD 2, { on := 6, ground := (Ground.gcOnly Departure.lateStores) }]).op, none⟩,
 ⟨(opAlloc (some 4) 24 (.agg #[(.int .i64 0), (.int .i64 0), (.string ⟨#[]⟩)]) ze24 0 "value.go:200" #[]).op, none⟩,
 ⟨(opStore none 24 (.tmp 4) (.tmp 9) 3 sz24 0 "value.go:200" #[eD 5, eD 3, eC 1, eP 0, eP 1, eP 2, eP 3, { on := 4, ground := (Ground.textOnly Departure.lateStores) }, eP 5]).op, none⟩,
 ⟨(opAssign (some 5) (.tmp 10) 4 "value.go:200" #[eD 4, eC 6, eP 0, eP 1, eP 2, eP 3, eP 4, eP 5, eP 6]).op, none⟩
 ] (by kernel_rfl)))
 (.seq (.seq (.live [2, 4, 23] (.region 2 [
 ⟨(opMove (some 11) (.tmp 5) 4 "value.go:201" #[]).op, none⟩,
 ⟨(opNot (some 12) 4 (.tmp 11) 4 "value.go:201" #[eD 0]).op, none⟩,
 ⟨(opMove (some 13) (.tmp 12) 4 "value.go:201" #[eD 1]).op, none⟩,
 ⟨(opLoadT (.agg [(.int .i64), (.int .i64), .str]) (some 14) 24 (.tmp 4) d24 ud24 3 sz24 (by kernel_rfl) 24 "value.go:201" #[eG 2]).op, (some (2, 13, false))⟩,
 ⟨(opCallP p13 (some 15) [(.tmp 14)] #[24] 4 "value.go:201" #[eD 3, eC 2, eG 2]).op, (some (2, 13, false))⟩,
 ⟨(opNot (some 16) 4 (.tmp 15) 4 "value.go:201" #[eD 4, eG 2]).op, (some (2, 13, false))⟩,
 ⟨(opPick (some 17) (.tmp 13) (.const (Value.bool true)) (.tmp 16) 4 "value.go:201" #[eD 2, eD 5]).op, none⟩,
 ⟨(opMove (some 18) (.tmp 17) 4 "value.go:201" #[eD 6, eC 4]).op, none⟩,
 ⟨(opLoadT (.agg [(.int .i64), (.int .i64), .str]) (some 19) 24 (.tmp 4) d24 ud24 3 sz24 (by kernel_rfl) 24 "value.go:201" #[eG 7]).op, (some (7, 18, false))⟩,
 ⟨opCall (f12.orc 0) (some 20) [(.tmp 19)] #[24] 9 "value.go:201" #[eD 8, eC 7, eG 7], (some (7, 18, false))⟩,
 ⟨(opMove (some 21) (.tmp 0) 9 "value.go:201" #[eG 7]).op, (some (7, 18, false))⟩,
 ⟨(opBinS (some 22) .neq 9 (.tmp 20) (.tmp 21) 9 4 "value.go:201" #[eD 9, eD 10, eG 7]).op, (some (7, 18, false))⟩,
 ⟨(opPick (some 23) (.tmp 18) (.const (Value.bool true)) (.tmp 22) 4 "value.go:201" #[eD 7, eD 11]).op, none⟩
 ] (by kernel_rfl)))
 (.cond (.tmp 23)
 (.seq (.live [2, 3] (.region 3 [
 ⟨(opBuild (some 24) 24 #[(.int .i64 0), (.int .i64 0), (.string ⟨#[]⟩)] [] ze24 (by kernel_rfl) 24 "value.go:202" #[]).op, none⟩,
 ⟨(opStore none 24 (.tmp 2) (.tmp 24) 3 sz24 0 "value.go:202" #[eD 0, eP 0]).op, none⟩,
 ⟨(opAssign (some 3) (.const (Value.bool false)) 4 "value.go:202" #[eC 1, eP 0, eP 1]).op, none⟩
 ] (by kernel_rfl)))
 (.live [2, 3] .ret))
 .skip))
 (.seq (.live [2, 3] (.region 4 [
 ⟨(opLoadT (.agg [(.int .i64), (.int .i64), .str]) (some 25) 24 (.tmp 4) d24 ud24 3 sz24 (by kernel_rfl) 24 "value.go:204" #[]).op, none⟩,
 ⟨(opStore none 24 (.tmp 2) (.tmp 25) 3 sz24 0 "value.go:204" #[eD 0, eP 0]).op, none⟩,
 ⟨(opAssign (some 3) (.const (Value.bool true)) 4 "value.go:204" #[eC 1, eP 0, eP 1]).op, none⟩
 ] (by kernel_rfl)))
 (.live [2, 3] .ret)))))

noncomputable def f10 : Fun Tryd.prog where
 id := 10
 fn := Tryd.f10
 hf := Tryd.func10
 hname := by kernel_rfl
 body := f10_b
 hbody := by kernel_rfl
 res := [rCell 2 24 d24 ud24 3 sz24, rTmp 3]
 hres := by kernel_rfl
 n := 26
 hn := by kernel_rfl

/-! ### 9: interlock/interlocklaw04.alive (); results 0; slots: 1 v, 2 ok, 3 b, 4 is -/
noncomputable def f9_b : Sim Tryd.prog :=
 (.seq (.live [] (.region 0 [
 ⟨(opAssign (some 0) (.const (Value.bool false)) 4 "law.go:12" #[]).op, none⟩
 ] (by kernel_rfl)))
 (.seq (.live [1, 2] (.region 1 [
 ⟨opCall (f10.orc 0) (some 6) [(.const (Value.string { data := #[34, 97, 92, 50, 50, 98, 34] }))] #[9] 25 "law.go:13" #[], none⟩,
 ⟨(opMove (some 5) (.tmp 6) 25 "law.go:13" #[eD 0]).op, none⟩,
 ⟨(opExtract (some 7) (.tmp 5) 0 24 "law.go:13" #[eD 1]).op, none⟩,
 ⟨(opExtract (some 8) (.tmp 5) 1 4 "law.go:13" #[eD 1, { on := 5, ground := (Ground.gcOnly Departure.lateStores) }]).op, none⟩,
 ⟨(opAlloc (some 1) 24 (.agg #[(.int .i64 0), (.int .i64 0), (.string ⟨#[]⟩)]) ze24 0 "law.go:13" #[]).op, none⟩,
 ⟨(opStore none 24 (.tmp 1) (.tmp 7) 3 sz24 0 "law.go:13" #[eD 4, eD 2, eC 0, eP 0, eP 1, eP 2, { on := 3, ground := (Ground.textOnly Departure.lateStores) }, eP 4]).op, none⟩,
 ⟨(opAssign (some 2) (.tmp 8) 4 "law.go:13" #[eD 3, eC 5, eP 0, eP 1, eP 2, eP 3, eP 4, eP 5]).op, none⟩
 ] (by kernel_rfl)))
 (.seq (.live [1, 2, 3, 4] (.region 2 [
 ⟨(opBuild (some 10) 24 #[(.int .i64 0), (.int .i64 0), (.string ⟨#[]⟩)] [(0, 0, 1, (.const (Value.int IntKind.i64 1))), (1, 1, 1, (.const (Value.int IntKind.i64 (-1))))] ze24 (by kernel_rfl) 24 "law.go:14" #[]).op, none⟩,
 ⟨(opBuildSlice (some 11) 37 1 [(0, (.tmp 10))] 24 3 32 (.agg #[(.int .i64 0), (.int .i64 0), (.string ⟨#[]⟩)]) el37 (by kernel_rfl) (by decide) 37 "law.go:14" #[eD 0]).op, none⟩,
 ⟨opCall (f25.orc 20) (some 12) [(.tmp 11)] #[37] 47 "law.go:14" #[eD 1], none⟩,
 ⟨(opMove (some 9) (.tmp 12) 47 "law.go:14" #[eD 2]).op, none⟩,
 ⟨(opExtract (some 13) (.tmp 9) 0 46 "law.go:14" #[eD 3]).op, none⟩,
 ⟨(opExtract (some 14) (.tmp 9) 1 4 "law.go:14" #[eD 3, { on := 6, ground := (Ground.gcOnly Departure.lateStores) }]).op, none⟩,
 ⟨(opAssign (some 3) (.tmp 13) 46 "law.go:14" #[eD 4, eC 2, eP 0, eP 1, eP 2, eP 3, eP 4, { on := 5, ground := (Ground.textOnly Departure.lateStores) }]).op, none⟩,
 ⟨(opAssign (some 4) (.tmp 14) 4 "law.go:14" #[eD 5, eC 6, eP 0, eP 1, eP 2, eP 3, eP 4, eP 5, eP 6]).op, none⟩
 ] (by kernel_rfl)))
 (.seq (.live [0] (.region 3 [
 ⟨(opMove (some 15) (.tmp 2) 4 "law.go:15" #[]).op, none⟩,
 ⟨(opMove (some 16) (.tmp 15) 4 "law.go:15" #[eD 0]).op, none⟩,
 ⟨(opLoadT (.agg [(.int .i64), (.int .i64), .str]) (some 17) 24 (.tmp 1) d24 ud24 3 sz24 (by kernel_rfl) 24 "law.go:15" #[eG 1]).op, (some (1, 16, true))⟩,
 ⟨(opBuild (some 18) 24 #[(.int .i64 0), (.int .i64 0), (.string ⟨#[]⟩)] [(0, 0, 1, (.const (Value.int IntKind.i64 3))), (2, 2, 1, (.const (Value.string { data := #[97, 34, 98] })))] ze24 (by kernel_rfl) 24 "law.go:15" #[eG 1]).op, (some (1, 16, true))⟩,
 ⟨(opEqS (some 19) 24 [(0, 0), (1, 0), (2, 2)] eq24 (.tmp 17) (.tmp 18) 24 4 "law.go:15" #[eD 2, eD 3, eG 1]).op, (some (1, 16, true))⟩,
 ⟨(opPick (some 20) (.tmp 16) (.tmp 19) (.const (Value.bool false)) 4 "law.go:15" #[eD 1, eD 4]).op, none⟩,
 ⟨(opMove (some 21) (.tmp 20) 4 "law.go:15" #[eD 5, eC 1]).op, none⟩,
 ⟨(opMove (some 22) (.tmp 4) 4 "law.go:15" #[eG 6]).op, (some (6, 21, true))⟩,
 ⟨(opPick (some 23) (.tmp 21) (.tmp 22) (.const (Value.bool false)) 4 "law.go:15" #[eD 6, eD 7]).op, none⟩,
 ⟨(opMove (some 24) (.tmp 23) 4 "law.go:15" #[eD 8, eC 6]).op, none⟩,
 ⟨(opMove (some 25) (.tmp 3) 46 "law.go:15" #[eG 9]).op, (some (9, 24, true))⟩,
 ⟨(opBuildSlice (some 26) 46 3 [(0, (.const (Value.int IntKind.u8 2))), (1, (.const (Value.int IntKind.u8 2))), (2, (.const (Value.int IntKind.u8 1)))] 5 1 1 (.int .u8 0) el46 (by kernel_rfl) (by decide) 46 "law.go:15" #[eG 9]).op, (some (9, 24, true))⟩,
 ⟨opCall (f28.orc 20) (some 27) [(.tmp 25), (.tmp 26)] #[46, 46] 4 "law.go:15" #[eD 10, eD 11, eC 9, eG 9], (some (9, 24, true))⟩,
 ⟨(opPick (some 28) (.tmp 24) (.tmp 27) (.const (Value.bool false)) 4 "law.go:15" #[eD 9, eD 12]).op, none⟩,
 ⟨(opMove (some 29) (.tmp 28) 4 "law.go:15" #[eD 13, eC 12]).op, none⟩,
 ⟨(opBuild (some 30) 24 #[(.int .i64 0), (.int .i64 0), (.string ⟨#[]⟩)] [] ze24 (by kernel_rfl) 24 "law.go:15" #[eG 14]).op, (some (14, 29, true))⟩,
 ⟨(opBuild (some 31) 24 #[(.int .i64 0), (.int .i64 0), (.string ⟨#[]⟩)] [(0, 0, 1, (.const (Value.int IntKind.i64 1)))] ze24 (by kernel_rfl) 24 "law.go:15" #[eG 14]).op, (some (14, 29, true))⟩,
 ⟨opCall (f21.orc 0) (some 32) [(.tmp 30), (.tmp 31)] #[24, 24] 3 "law.go:15" #[eD 15, eD 16, eC 14, eG 14], (some (14, 29, true))⟩,
 ⟨(opBin (some 33) .eql 3 (.tmp 32) (.const (Value.int IntKind.i64 (-1))) 3 4 "law.go:15" #[eD 17, eG 14]).op, (some (14, 29, true))⟩,
 ⟨(opPick (some 34) (.tmp 29) (.tmp 33) (.const (Value.bool false)) 4 "law.go:15" #[eD 14, eD 18]).op, none⟩,
 ⟨(opMove (some 35) (.tmp 34) 4 "law.go:15" #[eD 19, eC 17]).op, none⟩,
 ⟨(opLoadT (.agg [(.int .i64), (.int .i64), .str]) (some 36) 24 (.tmp 1) d24 ud24 3 sz24 (by kernel_rfl) 24 "law.go:15" #[eG 20]).op, (some (20, 35, true))⟩,
 ⟨opCall (f12.orc 0) (some 37) [(.tmp 36)] #[24] 9 "law.go:15" #[eD 21, eC 20, eG 20], (some (20, 35, true))⟩,
 ⟨(opBinS (some 38) .eql 9 (.tmp 37) (.const (Value.string { data := #[34, 97, 92, 50, 50, 98, 34] })) 9 4 "law.go:15" #[eD 22, eG 20]).op, (some (20, 35, true))⟩,
 ⟨(opPick (some 39) (.tmp 35) (.tmp 38) (.const (Value.bool false)) 4 "law.go:15" #[eD 20, eD 23]).op, none⟩,
 ⟨(opAssign (some 0) (.tmp 39) 4 "law.go:15" #[eD 24, eC 22, eP 0, eP 1, eP 2, eP 3, eP 4, eP 5, eP 6, eP 7, eP 8, eP 9, eP 10, eP 11, eP 12, eP 13, eP 14, eP 15, eP 16, eP 17, eP 18, eP 19, eP 20, eP 21, eP 22, eP 23, eP 24]).op, none⟩
 ] (by kernel_rfl)))
 (.live [0] .ret)))))

noncomputable def f9 : Fun Tryd.prog where
 id := 9
 fn := Tryd.f9
 hf := Tryd.func9
 hname := by kernel_rfl
 body := f9_b
 hbody := by kernel_rfl
 res := [rTmp 0]
 hres := by kernel_rfl
 n := 40
 hn := by kernel_rfl

end Go.Proofs.YtcfedmheblbdnaaDoor.V

/- What the functions' runs come to; the right sides were printed by a tool, Lean checks them. -/
set_option linter.unusedVariables false
set_option maxRecDepth 100000
namespace Go.Proofs.YtcfedmheblbdnaaDoor.V
open Go Go.V Go.RowKit

theorem alive_run  :
 (f9.run 20 [] ⟨[], []⟩ : Ans) =
 branch (AV.bool (cdec (5 ≤ 100000000)))
 (branch (AV.bool (cdec (3 ≤ 100000000)))
 (branch (AV.bool (cdec (3 ≤ 100000000)))
 (some
 (Fin.ret (AV.bool true),
 St.mk
 [Ob.cells
 [AV.int IntKind.i64 (3 : Int), AV.int IntKind.i64 (0 : Int),
 AV.str
 (unqS
 (((ByteArray.mk
 #[(34 : UInt8), (97 : UInt8), (92 : UInt8), (50 : UInt8), (50 : UInt8), (98 : UInt8),
 (34 : UInt8)]).extract
 1 7).extract
 0 5))],
 Ob.cells
 [AV.int IntKind.i64 (3 : Int), AV.int IntKind.i64 (0 : Int),
 AV.str
 (unqS
 (((ByteArray.mk
 #[(34 : UInt8), (97 : UInt8), (92 : UInt8), (50 : UInt8), (50 : UInt8), (98 : UInt8),
 (34 : UInt8)]).extract
 1 7).extract
 0 5))],
 Ob.cells
 [AV.int IntKind.i64 (3 : Int), AV.int IntKind.i64 (0 : Int),
 AV.str
 (unqS
 (((ByteArray.mk
 #[(34 : UInt8), (97 : UInt8), (92 : UInt8), (50 : UInt8), (50 : UInt8), (98 : UInt8),
 (34 : UInt8)]).extract
 1 7).extract
 0 5))],
 Ob.cells
 [AV.int IntKind.i64 (3 : Int), AV.int IntKind.i64 (0 : Int),
 AV.str
 (unqS
 (((ByteArray.mk
 #[(34 : UInt8), (97 : UInt8), (92 : UInt8), (50 : UInt8), (50 : UInt8), (98 : UInt8),
 (34 : UInt8)]).extract
 1 7).extract
 0 5))],
 Ob.cells [AV.int IntKind.i64 (1 : Int), AV.int IntKind.i64 (-1 : Int), AV.str (ByteArray.mk #[])]]
 [(1, 3), (1, 1), (1, 1)]))
 none)
 none)
 none := by kernel_rfl

end Go.Proofs.YtcfedmheblbdnaaDoor.V

/- Values: alive. -/
set_option linter.unusedVariables false
namespace Go.Proofs.YtcfedmheblbdnaaDoor.V
open Go Go.V Go.RowKit

theorem alive_can : ∃ F st', f9.run F [] ⟨[], []⟩ = some (.ret (.bool true), st') := by
  have h5 : cdec (5 ≤ 100000000) = true := by rw [cdec_iff]; omega
  have h3 : cdec (3 ≤ 100000000) = true := by rw [cdec_iff]; omega
  have h := alive_run
  rw [h5, h3, br_t, br_t, br_t] at h
  exact ⟨20, _, h⟩
noncomputable def p9 : POrc Tryd.prog := f9.flatIf dec0 (fun _ => []) dec0_enc (fun _ => true) (fun _ => .bool true) (fun _ => trivial) (fun _ => trivial) fun _ _ => alive_can
end Go.Proofs.YtcfedmheblbdnaaDoor.V

/- The functions' pieces, as told by gen.py. -/
set_option linter.unusedVariables false
set_option maxRecDepth 20000
namespace Go.Proofs.YtcfedmheblbdnaaDoor.V
open Go Go.V Go.RowKit

/-! ### 14: interlock/value.Fits (24, 32); results 4; slots: 0 v, 1 c, 2 v, 3 c -/
/-! ### 5: interlock/interlocklaw04.ValueFits (24, 32); results 4; slots: 0 v, 1 c, 2 v, 3 c, 5 e, 6 wide, 7 f -/
end Go.Proofs.YtcfedmheblbdnaaDoor.V

/- What the functions' runs come to; the right sides were printed by a tool, Lean checks them. -/
set_option linter.unusedVariables false
set_option maxRecDepth 100000
namespace Go.Proofs.YtcfedmheblbdnaaDoor.V
open Go Go.V Go.RowKit

end Go.Proofs.YtcfedmheblbdnaaDoor.V

/- Values: ValueFits is true. -/
set_option linter.unusedVariables false
namespace Go.Proofs.YtcfedmheblbdnaaDoor.V
open Go Go.V Go.RowKit

def tyVa : Ty := .st [.int .i64, .int .i64, .str]
theorem va_shape {xs : List AV} (h : Ty.Shape tyVa xs) : ∃ v : Va, xs = v.cells ∧ v.s.size ≤ reachBytes := by
  obtain ⟨a, b, rfl, ⟨k, rfl, _⟩, h⟩ := h
  obtain ⟨a, b, rfl, ⟨n, rfl, _⟩, h⟩ := h
  obtain ⟨a, b, rfl, ⟨s, rfl, hs⟩, h⟩ := h
  obtain rfl : b = [] := h
  exact ⟨⟨k, n, s⟩, rfl, hs⟩
end Go.Proofs.YtcfedmheblbdnaaDoor.V

/- Values: orders. -/
set_option linter.unusedVariables false
namespace Go.Proofs.YtcfedmheblbdnaaDoor.V
open Go Go.V Go.RowKit

/-- A comparison is an order. -/
structure Lin {α : Type} (c : α → α → Int) : Prop where
  neg : ∀ a b, c a b = -c b a
  eq : ∀ a b, c a b = 0 → a = b
  tr : ∀ a b d, c a b < 0 → c b d < 0 → c a d < 0
theorem Lin.law {α : Type} {c : α → α → Int} (h : Lin c) (x y z : α) : ¬ (c x y ≤ 0 ∧ c y z ≤ 0 ∧ 0 < c x z) ∧ ¬ (c x y < 0 ∧ c y z ≤ 0 ∧ 0 ≤ c x z) ∧ ¬ (0 ≤ c x y ∧ 0 ≤ c y z ∧ c x z < 0) := by
  have n1 := h.neg x y
  have n2 := h.neg y z
  have n3 := h.neg x z
  have t1 : c x y < 0 → c y z < 0 → c x z < 0 := h.tr x y z
  have t2 : c z y < 0 → c y x < 0 → c z x < 0 := h.tr z y x
  have e1 : c x y = 0 → c x z = c y z := fun e => by rw [h.eq _ _ e]
  have e2 : c y z = 0 → c x z = c x y := fun e => by rw [h.eq _ _ e]
  refine ⟨?_, ?_, ?_⟩ <;> omega
theorem bytes_inj {s t : ByteArray} (h : s.toList = t.toList) : s = t := by
  rw [ByteArray.toList_eq, ByteArray.toList_eq] at h
  have := Array.toList_inj.mp h
  cases s; cases t; simp only at this; rw [this]
end Go.Proofs.YtcfedmheblbdnaaDoor.V

/- What the functions' runs come to; the right sides were printed by a tool, Lean checks them. -/
set_option linter.unusedVariables false
set_option maxRecDepth 100000
namespace Go.Proofs.YtcfedmheblbdnaaDoor.V
open Go Go.V Go.RowKit

end Go.Proofs.YtcfedmheblbdnaaDoor.V

/- Values: the order of values as a callee; rows. -/
set_option linter.unusedVariables false
namespace Go.Proofs.YtcfedmheblbdnaaDoor.V
open Go Go.V Go.RowKit

/-- A value's cells, and what they say. -/
def tVa : List LT := [.int .i64, .int .i64, .str]
def vaR (r : List AV) : Va := ⟨hdI r, hdI r.tail, hdS r.tail.tail⟩
def rowsV (l : List (List AV)) : List Va := l.map vaR
def okV (l : List (List AV)) : Bool := l.all (isRow tVa)
def longV (l : List (List AV)) : Bool := decide ((l.length : Int) > 100) || l.any fun r => decide (((vaR r).s.size : Int) > 1000)
noncomputable def sameV (l r : List (List AV)) : Bool := cdec (rowsV l = rowsV r)
/-- A row, read no deeper than it must. -/
def nsR (x : AV) : Option (Bool × List (List AV)) :=
  match x with
  | .ns z s l => match Nat.beq s 3 with
    | true => some (z, l)
    | false => none
  | _ => none
def nsA (a : Bool × List (List AV)) : AV := .ns a.1 3 a.2
theorem nsR_some {x : AV} {a : Bool × List (List AV)} (h : nsR x = some a) : x = nsA a := by
  unfold nsR at h
  split at h
  · split at h
    · rename_i h1; cases h; rw [Nat.eq_of_beq_eq_true h1]; rfl
    · cases h
  · cases h
def dec1r : List AV → Option (Bool × List (List AV))
  | [x] => nsR x
  | _ => none
theorem dec1r_enc : ∀ l a, dec1r l = some a → l = [nsA a] := by
  intro l a h
  unfold dec1r at h
  split at h
  · rw [nsR_some h]
  · cases h
abbrev Ro2 := (Bool × List (List AV)) × (Bool × List (List AV))
def dec2r : List AV → Option Ro2
  | [x, y] => match nsR x with
    | some a => match nsR y with
      | some b => some (a, b)
      | none => none
    | none => none
  | _ => none
theorem dec2r_enc : ∀ l a, dec2r l = some a → l = [nsA a.1, nsA a.2] := by
  intro l a h
  unfold dec2r at h
  split at h
  · split at h
    · rename_i h1
      split at h
      · rename_i h2; cases h; rw [nsR_some h1, nsR_some h2]
      · cases h
    · cases h
  · cases h
theorem isRow_va {r : List AV} (h : isRow tVa r = true) : r = (vaR r).cells := (isRow_eq h).trans rfl
theorem isVa {r : List AV} (h : isRow tVa r = true) : (LD.agg tVa).is r = true := by
  simp only [isRow, Bool.and_eq_true] at h; exact h.1
theorem isVaS {r : List AV} (h : isRow tVa r = true) : (LD.one LT.str).is (List.drop 2 r) = true := by
  rw [isRow_eq h]; rfl
end Go.Proofs.YtcfedmheblbdnaaDoor.V

/- The functions' pieces, as told by gen.py. -/
set_option linter.unusedVariables false
set_option maxRecDepth 20000
namespace Go.Proofs.YtcfedmheblbdnaaDoor.V
open Go Go.V Go.RowKit


/-! ### 35: slices.CompareFunc[interlock/api.Row,interlock/api.Row,interlock/api.Value,interlock/api.Value] (37, 37, 44); results 6; slots: 0 s1, 1 s2, 2 cmp, 3 s1, 4 s2, 5 cmp, 7 i, 8 v1, 9 v2, 10 c -/
/-! ### 15: interlock/interlocklaw04.long (37); results 2; slots: 0 r, 1 r, 3 i -/
/-- A loop's round; at its head live: 0 r, 3 i -/
noncomputable def f15_l0 : Sim Tryd.prog :=
 (.seq (.seq (.live [0, 3, 10] (.region 4 [
 ⟨(opMove (some 7) (.tmp 3) 3 "law.go:22" #[]).op, none⟩,
 ⟨(opMove (some 8) (.tmp 0) 37 "law.go:22" #[]).op, none⟩,
 ⟨(opLen (some 9) (.tmp 8) 37 (.slice 24) Tryd.underlying37 3 "law.go:22" #[eD 1]).op, none⟩,
 ⟨(opBin (some 10) .lss 3 (.tmp 7) (.tmp 9) 3 4 "law.go:22" #[eD 0, eD 2]).op, none⟩
 ] (by kernel_rfl)))
 (.cond (.tmp 10)
 .skip
 (.live [] (.exit 0))))
 (.seq (.block 1 (.seq (.live [0, 3, 19] (.region 6 [
 ⟨(opMove (some 13) (.tmp 0) 37 "law.go:23" #[]).op, none⟩,
 ⟨(opMove (some 14) (.tmp 3) 3 "law.go:23" #[]).op, none⟩,
 ⟨(opIndexAddrT (some 15) 37 (.tmp 13) (.tmp 14) 24 3 Tryd.underlying37 sz24 0 "law.go:23" #[eD 0, eD 1]).op, none⟩,
 ⟨(opFieldAddr (some 16) 24 (.tmp 15) 2 2 1 false fl24_2 (by decide) 0 "law.go:23" #[eD 2]).op, none⟩,
 ⟨(opLoadT (.one .str) (some 17) 9 (.tmp 16) .string Tryd.underlying9 1 sz9 (by kernel_rfl) 9 "law.go:23" #[eD 3]).op, none⟩,
 ⟨(opLen (some 18) (.tmp 17) 9 .string Tryd.underlying9 3 "law.go:23" #[eD 4]).op, none⟩,
 ⟨(opBin (some 19) .gtr 3 (.tmp 18) (.const (Value.int IntKind.i64 1000)) 3 4 "law.go:23" #[eD 5]).op, none⟩
 ] (by kernel_rfl)))
 (.cond (.tmp 19)
 (.seq (.live [2] (.region 7 [
 ⟨(opAssign (some 2) (.const (Value.bool true)) 4 "law.go:24" #[]).op, none⟩
 ] (by kernel_rfl)))
 (.live [2] .ret))
 .skip)))
 (.live [0, 3] (.region 5 [
 ⟨(opMove (some 11) (.tmp 3) 3 "law.go:22" #[]).op, none⟩,
 ⟨(opBin (some 12) .add 3 (.tmp 11) (.const (Value.int IntKind.i64 1)) 3 3 "law.go:22" #[eD 0]).op, none⟩,
 ⟨(opAssign (some 3) (.tmp 12) 3 "law.go:22" #[eD 1, eP 0, eP 1]).op, none⟩
 ] (by kernel_rfl)))))

/-- What follows a loop. -/
noncomputable def f15_r0 : Sim Tryd.prog :=
 (.seq (.live [2] (.region 8 [
 ⟨(opAssign (some 2) (.const (Value.bool false)) 4 "law.go:27" #[]).op, none⟩
 ] (by kernel_rfl)))
 (.live [2] .ret))

noncomputable def f15_b : Sim Tryd.prog :=
 (.seq (.live [0] (.region 0 [
 ⟨(opAssign (some 2) (.const (Value.bool false)) 4 "law.go:18" #[]).op, none⟩
 ] (by kernel_rfl)))
 (.seq (.seq (.live [0, 6] (.region 1 [
 ⟨(opMove (some 4) (.tmp 0) 37 "law.go:19" #[]).op, none⟩,
 ⟨(opLen (some 5) (.tmp 4) 37 (.slice 24) Tryd.underlying37 3 "law.go:19" #[eD 0]).op, none⟩,
 ⟨(opBin (some 6) .gtr 3 (.tmp 5) (.const (Value.int IntKind.i64 100)) 3 4 "law.go:19" #[eD 1]).op, none⟩
 ] (by kernel_rfl)))
 (.cond (.tmp 6)
 (.seq (.live [2] (.region 2 [
 ⟨(opAssign (some 2) (.const (Value.bool true)) 4 "law.go:20" #[]).op, none⟩
 ] (by kernel_rfl)))
 (.live [2] .ret))
 .skip))
 (.seq (.seq (.live [0, 3] (.region 3 [
 ⟨(opAssign (some 3) (.const (Value.int IntKind.i64 0)) 3 "law.go:22" #[]).op, none⟩
 ] (by kernel_rfl)))
 (.block 0 (.loop [0, 3] f15_l0)))
 f15_r0)))

noncomputable def f15 : Fun Tryd.prog where
 id := 15
 fn := Tryd.f15
 hf := Tryd.func15
 hname := by kernel_rfl
 body := f15_b
 hbody := by kernel_rfl
 res := [rTmp 2]
 hres := by kernel_rfl
 n := 20
 hn := by kernel_rfl

/-! ### 17: interlock/interlockref00.SameRow (37, 37); results 4; slots: 0 a, 1 b, 2 a, 3 b, 5 i -/
/-- A loop's round; at its head live: 0 a, 1 b, 5 i -/
noncomputable def f17_l0 : Sim Tryd.prog :=
 (.seq (.seq (.live [0, 1, 5, 14] (.region 4 [
 ⟨(opMove (some 11) (.tmp 5) 3 "ref.go:136" #[]).op, none⟩,
 ⟨(opMove (some 12) (.tmp 0) 37 "ref.go:136" #[]).op, none⟩,
 ⟨(opLen (some 13) (.tmp 12) 37 (.slice 24) Tryd.underlying37 3 "ref.go:136" #[eD 1]).op, none⟩,
 ⟨(opBin (some 14) .lss 3 (.tmp 11) (.tmp 13) 3 4 "ref.go:136" #[eD 0, eD 2]).op, none⟩
 ] (by kernel_rfl)))
 (.cond (.tmp 14)
 .skip
 (.live [] (.exit 0))))
 (.seq (.block 1 (.seq (.live [0, 1, 5, 25] (.draw 6 [
 ⟨.p (opMove (some 17) (.tmp 0) 37 "ref.go:137" #[]), none⟩,
 ⟨.p (opMove (some 18) (.tmp 5) 3 "ref.go:137" #[]), none⟩,
 ⟨.pn (opIndexAddrT (some 19) 37 (.tmp 17) (.tmp 18) 24 3 Tryd.underlying37 sz24 0 "ref.go:137" #[eD 0, eD 1]) opIndexAddrT_nat, none⟩,
 ⟨.qn (opLoadT (.agg [(.int .i64), (.int .i64), .str]) (some 20) 24 (.tmp 19) d24 ud24 3 sz24 (by kernel_rfl) 24 "ref.go:137" #[eD 2]) opLoadT_nat, none⟩,
 ⟨.p (opMove (some 21) (.tmp 1) 37 "ref.go:137" #[]), none⟩,
 ⟨.p (opMove (some 22) (.tmp 5) 3 "ref.go:137" #[]), none⟩,
 ⟨.pn (opIndexAddrT (some 23) 37 (.tmp 21) (.tmp 22) 24 3 Tryd.underlying37 sz24 0 "ref.go:137" #[eD 4, eD 5]) opIndexAddrT_nat, none⟩,
 ⟨.qn (opLoadT (.agg [(.int .i64), (.int .i64), .str]) (some 24) 24 (.tmp 23) d24 ud24 3 sz24 (by kernel_rfl) 24 "ref.go:137" #[eD 6]) opLoadT_nat, none⟩,
 ⟨.pn (opNeS (some 25) 24 [(0, 0), (1, 0), (2, 2)] eq24 (.tmp 20) (.tmp 24) 24 4 "ref.go:137" #[eD 3, eD 7]) opNeS_nat, none⟩
 ] mixed (by kernel_rfl)))
 (.cond (.tmp 25)
 (.seq (.live [4] (.region 7 [
 ⟨(opAssign (some 4) (.const (Value.bool false)) 4 "ref.go:138" #[]).op, none⟩
 ] (by kernel_rfl)))
 (.live [4] .ret))
 .skip)))
 (.live [0, 1, 5] (.region 5 [
 ⟨(opMove (some 15) (.tmp 5) 3 "ref.go:136" #[]).op, none⟩,
 ⟨(opBin (some 16) .add 3 (.tmp 15) (.const (Value.int IntKind.i64 1)) 3 3 "ref.go:136" #[eD 0]).op, none⟩,
 ⟨(opAssign (some 5) (.tmp 16) 3 "ref.go:136" #[eD 1, eP 0, eP 1]).op, none⟩
 ] (by kernel_rfl)))))

/-- What follows a loop. -/
noncomputable def f17_r0 : Sim Tryd.prog :=
 (.seq (.live [4] (.region 8 [
 ⟨(opAssign (some 4) (.const (Value.bool true)) 4 "ref.go:141" #[]).op, none⟩
 ] (by kernel_rfl)))
 (.live [4] .ret))

noncomputable def f17_b : Sim Tryd.prog :=
 (.seq (.live [0, 1] (.region 0 [
 ⟨(opAssign (some 4) (.const (Value.bool false)) 4 "ref.go:132" #[]).op, none⟩
 ] (by kernel_rfl)))
 (.seq (.seq (.live [0, 1, 10] (.region 1 [
 ⟨(opMove (some 6) (.tmp 0) 37 "ref.go:133" #[]).op, none⟩,
 ⟨(opLen (some 7) (.tmp 6) 37 (.slice 24) Tryd.underlying37 3 "ref.go:133" #[eD 0]).op, none⟩,
 ⟨(opMove (some 8) (.tmp 1) 37 "ref.go:133" #[]).op, none⟩,
 ⟨(opLen (some 9) (.tmp 8) 37 (.slice 24) Tryd.underlying37 3 "ref.go:133" #[eD 2]).op, none⟩,
 ⟨(opBin (some 10) .neq 3 (.tmp 7) (.tmp 9) 3 4 "ref.go:133" #[eD 1, eD 3]).op, none⟩
 ] (by kernel_rfl)))
 (.cond (.tmp 10)
 (.seq (.live [4] (.region 2 [
 ⟨(opAssign (some 4) (.const (Value.bool false)) 4 "ref.go:134" #[]).op, none⟩
 ] (by kernel_rfl)))
 (.live [4] .ret))
 .skip))
 (.seq (.seq (.live [0, 1, 5] (.region 3 [
 ⟨(opAssign (some 5) (.const (Value.int IntKind.i64 0)) 3 "ref.go:136" #[]).op, none⟩
 ] (by kernel_rfl)))
 (.block 0 (.loop [0, 1, 5] f17_l0)))
 f17_r0)))

noncomputable def f17 : Fun Tryd.prog where
 id := 17
 fn := Tryd.f17
 hf := Tryd.func17
 hname := by kernel_rfl
 body := f17_b
 hbody := by kernel_rfl
 res := [rTmp 4]
 hres := by kernel_rfl
 n := 26
 hn := by kernel_rfl

end Go.Proofs.YtcfedmheblbdnaaDoor.V

/- What the functions' runs come to; the right sides were printed by a tool, Lean checks them. -/
set_option linter.unusedVariables false
set_option maxRecDepth 100000
namespace Go.Proofs.YtcfedmheblbdnaaDoor.V
open Go Go.V Go.RowKit

theorem long_run (F : Nat) (z : Bool) (l : List (List AV)) (st : St) :
 (f15.run F [.ns z 3 l] st : Ans) =
 branch (AV.bool (decide ((↑l.length : Int) > (100 : Int)))) (some (Fin.ret (AV.bool true), st))
 (loopRun (f15_l0.run F) [0, 3]
 (Cont.block 0 (Cont.then (f15_r0.run F (f15.leaveK Fun.done)) (f15.leaveK Fun.done))) F
 (Env.mk 20 [(0, AV.ns z 3 l), (3, AV.int IntKind.i64 (0 : Int))]) st) := by kernel_rfl

theorem same_run (F : Nat) (z y : Bool) (l r : List (List AV)) (st : St) :
 (f17.run F [.ns z 3 l, .ns y 3 r] st : Ans) =
 branch (AV.bool ((↑l.length : Int) != (↑r.length : Int))) (some (Fin.ret (AV.bool false), st))
 (loopRun (f17_l0.run F) [0, 1, 5]
 (Cont.block 0 (Cont.then (f17_r0.run F (f17.leaveK Fun.done)) (f17.leaveK Fun.done))) F
 (Env.mk 26
 [(0, AV.ns z 3 l), (1, AV.ns y 3 r), (5, AV.int IntKind.i64 (0 : Int))])
 st) := by kernel_rfl

theorem long_round (F m : Nat) (K : Cont) (z : Bool) (l : List (List AV)) (i : Int) (st : St) :
 (loopRun (f15_l0.run F) [0, 3] K m.succ (Env.mk 20 [(0, .ns z 3 l), (3, .int .i64 i)]) st : Ans) =
 branch (AV.bool (decide (i < (↑l.length : Int))))
 (branch (AV.bool (inR l i))
 (branch (AV.bool ((LD.one LT.str).is (List.drop 2 (V.rowAt l i))))
 (branch (AV.bool (decide ((↑(hdS (List.drop 2 (V.rowAt l i))).size : Int) > (1000 : Int))))
 (K AX.ret (Env.mk 20 [(2, AV.bool true)]) st)
 (loopRun (f15_l0.run F) [0, 3] K m
 (Env.mk 20
 [(0, AV.ns z 3 l), (3, AV.int IntKind.i64 (IntKind.i64.wrap (i + (1 : Int))))])
 st))
 none)
 none)
 (K (AX.exit 0) (Env.mk 20 []) st) := by kernel_rfl

theorem same_round (F m : Nat) (K : Cont) (z y : Bool) (l r : List (List AV)) (i : Int) (st : St) :
 (loopRun (f17_l0.run F) [0, 1, 5] K m.succ (Env.mk 26 [(0, .ns z 3 l), (1, .ns y 3 r), (5, .int .i64 i)]) st : Ans) =
 branch (AV.bool (decide (i < (↑l.length : Int))))
 (branch (AV.bool (inR l i))
 (branch (AV.bool ((LD.agg [LT.int IntKind.i64, LT.int IntKind.i64, LT.str]).is (V.rowAt l i)))
 (branch (AV.bool (inR r i))
 (branch (AV.bool ((LD.agg [LT.int IntKind.i64, LT.int IntKind.i64, LT.str]).is (V.rowAt r i)))
 (branch
 (AV.bool
 !(hdI (V.rowAt l i) == hdI (V.rowAt r i) &&
 (hdI (V.rowAt l i).tail == hdI (V.rowAt r i).tail &&
 ((hdS (V.rowAt l i).tail.tail).toList == (hdS (V.rowAt r i).tail.tail).toList && true))))
 (K AX.ret (Env.mk 26 [(4, AV.bool false)]) st)
 (loopRun (f17_l0.run F) [0, 1, 5] K m
 (Env.mk 26
 [(0, AV.ns z 3 l), (1, AV.ns y 3 r),
 (5, AV.int IntKind.i64 (IntKind.i64.wrap (i + (1 : Int))))])
 st))
 none)
 none)
 none)
 none)
 (K (AX.exit 0) (Env.mk 26 []) st) := by kernel_rfl

theorem long_out (F : Nat) (st : St) :
 ((Cont.block 0 (Cont.then (f15_r0.run F (f15.leaveK Fun.done)) (f15.leaveK Fun.done))) (.exit 0) (Env.mk 20 []) st : Ans) =
 some (Fin.ret (AV.bool false), st) := by kernel_rfl

theorem long_ret (F : Nat) (st : St) :
 ((Cont.block 0 (Cont.then (f15_r0.run F (f15.leaveK Fun.done)) (f15.leaveK Fun.done))) .ret (Env.mk 20 [(2, .bool true)]) st : Ans) =
 some (Fin.ret (AV.bool true), st) := by kernel_rfl

theorem same_out (F : Nat) (st : St) :
 ((Cont.block 0 (Cont.then (f17_r0.run F (f17.leaveK Fun.done)) (f17.leaveK Fun.done))) (.exit 0) (Env.mk 26 []) st : Ans) =
 some (Fin.ret (AV.bool true), st) := by kernel_rfl

theorem same_ret (F : Nat) (st : St) :
 ((Cont.block 0 (Cont.then (f17_r0.run F (f17.leaveK Fun.done)) (f17.leaveK Fun.done))) .ret (Env.mk 26 [(4, .bool false)]) st : Ans) =
 some (Fin.ret (AV.bool false), st) := by kernel_rfl

end Go.Proofs.YtcfedmheblbdnaaDoor.V

/- Values: rows' order, length and likeness, as callees. -/
set_option linter.unusedVariables false
namespace Go.Proofs.YtcfedmheblbdnaaDoor.V
open Go Go.V Go.RowKit

theorem wrap_n {i n : Nat} (h : i < n) (hn : n ≤ 1000) : IntKind.i64.wrap ((i : Int) + 1) = ((i + 1 : Nat) : Int) := by rw [wrapS (by omega) (by omega)]; omega
theorem rowsV_drop {l : List (List AV)} {i : Nat} (h : i < l.length) : rowsV (l.drop i) = vaR l[i] :: rowsV (l.drop (i + 1)) := by
  rw [List.drop_eq_getElem_cons h]; rfl
theorem rowsV_end {l : List (List AV)} {i : Nat} (h : l.length ≤ i) : rowsV (l.drop i) = [] := by
  rw [List.drop_eq_nil_of_le h]; rfl
theorem okV_at {l : List (List AV)} (h : okV l = true) {i : Nat} (hi : i < l.length) : isRow tVa l[i] = true := List.all_eq_true.mp h _ (List.getElem_mem hi)
noncomputable def ok2 (a : Ro2) : Bool := okV a.1.2 && (okV a.2.2 && cdec (a.1.2.length ≤ 1000))
theorem ok2_iff {a : Ro2} : ok2 a = true ↔ okV a.1.2 = true ∧ okV a.2.2 = true ∧ a.1.2.length ≤ 1000 := by
  simp only [ok2, Bool.and_eq_true, cdec_iff]
theorem long_all (F : Nat) (z : Bool) (l : List (List AV)) (st : St) (hl : okV l = true) (hn : l.length ≤ 1000) : ∀ (k i m : Nat), i + k = l.length → k < m →
    loopRun (f15_l0.run F) [0, 3] (Cont.block 0 (Cont.then (f15_r0.run F (f15.leaveK Fun.done)) (f15.leaveK Fun.done))) m (Env.mk 20 [(0, .ns z 3 l), (3, .int .i64 (i : Nat))]) st = some (.ret (.bool ((l.drop i).any fun r => decide (((vaR r).s.size : Int) > 1000))), st)
  | k, i, 0, _, h => by omega
  | 0, i, m + 1, h1, h3 => by
    rw [show m + 1 = m.succ from rfl, long_round, branch_not (decide_eq_false (by omega)), long_out, List.drop_eq_nil_of_le (by omega)]; rfl
  | k + 1, i, m + 1, h1, h3 => by
    have hi : i < l.length := by omega
    have hv := okV_at hl hi
    rw [show m + 1 = m.succ from rfl, long_round, branch_of (decide_eq_true (by omega)), branch_of (inR_nat hi), rowAt_nat hi, branch_of (isVaS hv), List.drop_eq_getElem_cons hi, List.any_cons]
    have e : hdS (List.drop 2 l[i]) = (vaR l[i]).s := by rw [isRow_va hv]; rfl
    rw [e]
    cases hq : decide (((vaR l[i]).s.size : Int) > 1000) with
    | true => rw [branch_true]; exact long_ret F st
    | false => rw [branch_false, wrap_n hi hn, Bool.false_or]; exact long_all F z l st hl hn k (i + 1) m (by omega) (by omega)
noncomputable def p15 : POrc Tryd.prog := f15.pureIf dec1r (fun a => [nsA a]) dec1r_enc (fun a => okV a.2) (fun a => .bool (longV a.2)) (fun a _ => ⟨rfl, fun _ _ => trivial⟩) fun a h => ⟨1001, fun st => by
  obtain ⟨z, l⟩ := a
  show f15.run 1001 [.ns z 3 l] st = _
  rw [long_run]
  unfold longV
  by_cases hl : (l.length : Int) > 100
  · rw [branch_of (decide_eq_true hl), decide_eq_true hl]; rfl
  · rw [branch_not (decide_eq_false hl), decide_eq_false hl, Bool.false_or]
    exact long_all 1001 z l st h (by omega) l.length 0 1001 (by omega) (by omega)⟩
def eqVa (a b : Va) : Bool := a.k == b.k && (a.n == b.n && (a.s.toList == b.s.toList && true))
theorem eqVa_iff {a b : Va} : eqVa a b = true ↔ a = b := by
  obtain ⟨k, n, s⟩ := a
  obtain ⟨k', n', s'⟩ := b
  simp only [eqVa, Bool.and_eq_true, beq_iff_eq, and_true, Va.mk.injEq]
  constructor
  · exact fun ⟨h1, h2, h3⟩ => ⟨h1, h2, bytes_inj h3⟩
  · exact fun ⟨h1, h2, h3⟩ => ⟨h1, h2, by rw [h3]⟩
theorem same_all (F : Nat) (z y : Bool) (l r : List (List AV)) (st : St) (hl : okV l = true) (hr : okV r = true) (hn : l.length ≤ 1000) (he : l.length = r.length) : ∀ (k i m : Nat), i + k = l.length → k < m →
    loopRun (f17_l0.run F) [0, 1, 5] (Cont.block 0 (Cont.then (f17_r0.run F (f17.leaveK Fun.done)) (f17.leaveK Fun.done))) m (Env.mk 26 [(0, .ns z 3 l), (1, .ns y 3 r), (5, .int .i64 (i : Nat))]) st = some (.ret (.bool (sameV (l.drop i) (r.drop i))), st)
  | k, i, 0, _, h => by omega
  | 0, i, m + 1, h1, h3 => by
    rw [show m + 1 = m.succ from rfl, same_round, branch_not (decide_eq_false (by omega)), same_out, List.drop_eq_nil_of_le (by omega), List.drop_eq_nil_of_le (by omega), show sameV [] [] = true by rw [sameV, cdec_iff]]
  | k + 1, i, m + 1, h1, h3 => by
    have hi : i < l.length := by omega
    have hc : i < r.length := by omega
    have hv := okV_at hl hi
    have hw := okV_at hr hc
    rw [show m + 1 = m.succ from rfl, same_round, branch_of (decide_eq_true (by omega)), branch_of (inR_nat hi), rowAt_nat hi, branch_of (show (LD.agg [LT.int IntKind.i64, LT.int IntKind.i64, LT.str]).is l[i] = true from isVa hv),
      branch_of (inR_nat hc), rowAt_nat hc, branch_of (show (LD.agg [LT.int IntKind.i64, LT.int IntKind.i64, LT.str]).is r[i] = true from isVa hw)]
    show branch (.bool (!eqVa (vaR l[i]) (vaR r[i]))) _ _ = _
    have e : sameV (l.drop i) (r.drop i) = (eqVa (vaR l[i]) (vaR r[i]) && sameV (l.drop (i + 1)) (r.drop (i + 1))) := by
      rw [Bool.eq_iff_iff, Bool.and_eq_true, sameV, sameV, cdec_iff, cdec_iff, eqVa_iff, rowsV_drop hi, rowsV_drop hc, List.cons.injEq]
    rw [e]
    cases hq : eqVa (vaR l[i]) (vaR r[i]) with
    | false => exact same_ret F st
    | true => rw [Bool.not_true, branch_false, wrap_n hi hn, Bool.true_and]; exact same_all F z y l r st hl hr hn he k (i + 1) m (by omega) (by omega)
noncomputable def p17 : POrc Tryd.prog := f17.pureIf dec2r (fun a => [nsA a.1, nsA a.2]) dec2r_enc ok2 (fun a => .bool (sameV a.1.2 a.2.2)) (fun a _ => ⟨rfl, fun _ _ => trivial⟩) fun a h => ⟨1001, fun st => by
  obtain ⟨⟨z, l⟩, ⟨y, r⟩⟩ := a
  obtain ⟨h1, h2, h3⟩ := ok2_iff.mp h
  show f17.run 1001 [.ns z 3 l, .ns y 3 r] st = some (.ret (.bool (sameV l r)), st)
  rw [same_run]
  by_cases he : l.length = r.length
  · rw [branch_not (by simp [he])]
    exact same_all 1001 z y l r st h1 h2 h3 he l.length 0 1001 (by omega) (by have : l.length ≤ 1000 := h3; omega)
  · have : ¬ (l.length : Int) = r.length := by omega
    rw [branch_of (by simpa using this), show sameV l r = false by
      rw [Bool.eq_false_iff, ne_eq, sameV, cdec_iff]
      intro e
      exact he (by have := congrArg List.length e; simpa [rowsV] using this)]⟩
end Go.Proofs.YtcfedmheblbdnaaDoor.V

/- The functions' pieces, as told by gen.py. -/
set_option linter.unusedVariables false
set_option maxRecDepth 20000
namespace Go.Proofs.YtcfedmheblbdnaaDoor.V
open Go Go.V Go.RowKit


/-! ### 16: interlock/value.OrderRows (37, 37); results 4; slots: 0 a, 1 b, 2 a, 3 b -/
end Go.Proofs.YtcfedmheblbdnaaDoor.V

/- What the functions' runs come to; the right sides were printed by a tool, Lean checks them. -/
set_option linter.unusedVariables false
set_option maxRecDepth 100000
namespace Go.Proofs.YtcfedmheblbdnaaDoor.V
open Go Go.V Go.RowKit

end Go.Proofs.YtcfedmheblbdnaaDoor.V

/- Values: OrderRows, as a callee. -/
set_option linter.unusedVariables false
namespace Go.Proofs.YtcfedmheblbdnaaDoor.V
open Go Go.V Go.RowKit

end Go.Proofs.YtcfedmheblbdnaaDoor.V

/- What the functions' runs come to; the right sides were printed by a tool, Lean checks them. -/
set_option linter.unusedVariables false
set_option maxRecDepth 100000
namespace Go.Proofs.YtcfedmheblbdnaaDoor.Z
open Go Go.V Go.RowKit Go.Proofs.YtcfedmheblbdnaaDoor.V

theorem clo_run (F : Nat) (v : Va) (st : St) :
 (f45.run F [v.av] st : Ans) =
 some (Fin.ret (AV.bool !rightV (Va.mk (hdI v.cells) (hdI v.cells.tail) (hdS v.cells.tail.tail))), st) := by kernel_rfl

end Go.Proofs.YtcfedmheblbdnaaDoor.Z

/- Values: a value that isn't right, as a callee. -/
set_option linter.unusedVariables false
namespace Go.Proofs.YtcfedmheblbdnaaDoor.Z
open Go.Proofs.YtcfedmheblbdnaaDoor.V
open Go Go.V Go.RowKit

noncomputable def c35 : POrc Tryd.prog := f45.pureIf dec1v (fun v => [v.av]) dec1v_enc (fun _ => true) (fun v => .bool (!rightV v)) (fun _ _ => ⟨rfl, fun _ _ => trivial⟩) fun v _ => ⟨0, fun st => clo_run 0 v st⟩
noncomputable def OsR : List (Orc Tryd.prog) := [c35.orcS.orc]
end Go.Proofs.YtcfedmheblbdnaaDoor.Z

/- What the functions' runs come to; the right sides were printed by a tool, Lean checks them. -/
set_option linter.unusedVariables false
set_option maxRecDepth 100000
namespace Go.Proofs.YtcfedmheblbdnaaDoor.Z
open Go Go.V Go.RowKit Go.Proofs.YtcfedmheblbdnaaDoor.V

theorem ix_run (F : Nat) (z : Bool) (l : List (List AV)) (st : St) :
 ((f62 OsR).run F [.ns z 3 l, .fn (.func 45) [] []] st : Ans) =
 loopRun ((f62_l0 OsR).run F) [0, 1, 7, 8]
 (Cont.block 0 (Cont.then ((f62_r0 OsR).run F ((f62 OsR).leaveK Fun.done)) ((f62 OsR).leaveK Fun.done))) F
 (Env.mk 19
 [(0, AV.ns z 3 l), (1, AV.fn (Fn.func (45 : FuncId)) [] []),
 (7, AV.int IntKind.i64 (↑l.length : Int)), (8, AV.int IntKind.i64 (0 : Int))])
 st := by kernel_rfl

theorem ix_round (F m : Nat) (K : Cont) (z : Bool) (l : List (List AV)) (i : Int) (st : St) :
 (loopRun ((f62_l0 OsR).run F) [0, 1, 7, 8] K m.succ (Env.mk 19 [(0, .ns z 3 l), (1, .fn (.func 45) [] []), (7, .int .i64 (l.length : Int)), (8, .int .i64 i)]) st : Ans) =
 branch (AV.bool (decide (i < (↑l.length : Int))))
 (branch (AV.bool (inR l i))
 (branch (AV.bool ((LD.agg [LT.int IntKind.i64, LT.int IntKind.i64, LT.str]).is (V.rowAt l i)))
 (branch (AV.bool !rightV (Va.mk (hdI (V.rowAt l i)) (hdI (V.rowAt l i).tail) (hdS (V.rowAt l i).tail.tail)))
 (K AX.ret (Env.mk 19 [(4, AV.int IntKind.i64 i)]) st)
 (loopRun ((f62_l0 OsR).run F) [0, 1, 7, 8] K m
 (Env.mk 19
 [(0, AV.ns z 3 l), (1, AV.fn (Fn.func (45 : FuncId)) [] []),
 (7, AV.int IntKind.i64 (↑l.length : Int)),
 (8, AV.int IntKind.i64 (IntKind.i64.wrap (i + (1 : Int))))])
 st))
 none)
 none)
 (K (AX.exit 0) (Env.mk 19 []) st) := by kernel_rfl

theorem ix_out (F : Nat) (st : St) :
 ((Cont.block 0 (Cont.then ((f62_r0 OsR).run F ((f62 OsR).leaveK Fun.done)) ((f62 OsR).leaveK Fun.done))) (.exit 0) (Env.mk 19 []) st : Ans) =
 some (Fin.ret (AV.int IntKind.i64 (-1 : Int)), st) := by kernel_rfl

end Go.Proofs.YtcfedmheblbdnaaDoor.Z

/- Values: a row's first value that isn't right, as a callee. -/
set_option linter.unusedVariables false
namespace Go.Proofs.YtcfedmheblbdnaaDoor.Z
open Go.Proofs.YtcfedmheblbdnaaDoor.V
open Go Go.V Go.RowKit

def badIx : List Va → Nat → Int
  | [], _ => -1
  | v :: l, i => bif rightV v then badIx l (i + 1) else (i : Int)
theorem badIx_ge : ∀ l i, decide (badIx l i ≥ 0) = !(l.all rightV)
  | [], i => rfl
  | v :: l, i => by
    rw [badIx, List.all_cons]
    cases rightV v with
    | true => rw [Bool.true_and]; exact badIx_ge l (i + 1)
    | false => exact decide_eq_true (by simp)
def decFn (m : Nat) (x : AV) : Bool :=
  match x with
  | .fn f a b => match f with
    | .func n => match Nat.beq n m with
      | true => match a with
        | [] => match b with
          | [] => true
          | _ => false
        | _ => false
      | false => false
    | _ => false
  | _ => false
theorem decFn_eq {m : Nat} {x : AV} (h : decFn m x = true) : x = .fn (.func m) [] [] := by
  unfold decFn at h
  split at h
  · split at h
    · split at h
      · rename_i h1
        split at h
        · split at h
          · rw [Nat.eq_of_beq_eq_true h1]
          · cases h
        · cases h
      · cases h
    · cases h
  · cases h
def decC : List AV → Option (Bool × List (List AV))
  | [x, y] => match decFn 45 y with
    | true => nsR x
    | false => none
  | _ => none
theorem decC_enc : ∀ l a, decC l = some a → l = [nsA a, .fn (.func 45) [] []] := by
  intro l a h
  unfold decC at h
  split at h
  · split at h
    · rename_i h1; rw [nsR_some h, decFn_eq h1]
    · cases h
  · cases h
theorem ix_all (F : Nat) (z : Bool) (l : List (List AV)) (st : St) (hl : okV l = true) (hn : l.length ≤ 1000) : ∀ (k i m : Nat), i + k = l.length → k < m →
    loopRun ((f62_l0 OsR).run F) [0, 1, 7, 8] (Cont.block 0 (Cont.then ((f62_r0 OsR).run F ((f62 OsR).leaveK Fun.done)) ((f62 OsR).leaveK Fun.done))) m
      (Env.mk 19 [(0, .ns z 3 l), (1, .fn (.func 45) [] []), (7, .int .i64 (l.length : Int)), (8, .int .i64 (i : Nat))]) st = some (.ret (.int .i64 (badIx (rowsV (l.drop i)) i)), st)
  | k, i, 0, _, h => by omega
  | 0, i, m + 1, h1, h3 => by
    rw [show m + 1 = m.succ from rfl, ix_round, branch_not (decide_eq_false (by omega)), ix_out, rowsV_end (by omega)]; rfl
  | k + 1, i, m + 1, h1, h3 => by
    have hi : i < l.length := by omega
    have hv := okV_at hl hi
    rw [show m + 1 = m.succ from rfl, ix_round, branch_of (decide_eq_true (by omega)), branch_of (inR_nat hi), rowAt_nat hi, branch_of (show (LD.agg [LT.int IntKind.i64, LT.int IntKind.i64, LT.str]).is l[i] = true from isVa hv), rowsV_drop hi, badIx]
    show branch (.bool (!rightV (vaR l[i]))) _ _ = _
    cases hq : rightV (vaR l[i]) with
    | true => rw [Bool.not_true, branch_false, wrap_n hi hn]; exact ix_all F z l st hl hn k (i + 1) m (by omega) (by omega)
    | false => rfl
noncomputable def okN (a : Bool × List (List AV)) : Bool := okV a.2 && cdec (a.2.length ≤ 1000)
theorem okN_iff {a : Bool × List (List AV)} : okN a = true ↔ okV a.2 = true ∧ a.2.length ≤ 1000 := by
  simp only [okN, Bool.and_eq_true, cdec_iff]
noncomputable def p62 : POrc Tryd.prog := (f62 OsR).pureIf decC (fun a => [nsA a, .fn (.func 45) [] []]) decC_enc okN (fun a => .int .i64 (badIx (rowsV a.2) 0)) (fun _ _ => ⟨rfl, fun _ _ => trivial⟩) fun a h => ⟨1001, fun st => by
  obtain ⟨h1, h2⟩ := okN_iff.mp h
  obtain ⟨z, l⟩ := a
  show (f62 OsR).run 1001 [.ns z 3 l, .fn (.func 45) [] []] st = _
  rw [ix_run]
  exact ix_all 1001 z l st h1 h2 l.length 0 1001 (by omega) (by have : l.length ≤ 1000 := h2; omega)⟩
def rrV (l : List (List AV)) : Bool := decide ((l.length : Int) ≤ 8) && (rowsV l).all rightV
end Go.Proofs.YtcfedmheblbdnaaDoor.Z

/- The functions' pieces, as told by gen.py. -/
set_option linter.unusedVariables false
set_option maxRecDepth 20000
namespace Go.Proofs.YtcfedmheblbdnaaDoor.Z
open Go Go.V Go.RowKit Go.Proofs.YtcfedmheblbdnaaDoor.V

theorem mixed : Tryd.prog.follows .mixedOrders = true := by kernel_rfl

/-! ### 44: slices.ContainsFunc[interlock/api.Row,interlock/api.Value] (37, 29); results 4; slots: 0 s, 1 f, 2 s, 3 f -/
noncomputable def f44_b : Sim Tryd.prog :=
 (.seq (.live [0, 1] (.region 0 [
 ⟨(opAssign (some 4) (.const (Value.bool false)) 4 "slices.go:124" #[]).op, none⟩
 ] (by kernel_rfl)))
 (.seq (.live [4] (.region 1 [
 ⟨(opMove (some 5) (.tmp 0) 37 "slices.go:125" #[]).op, none⟩,
 ⟨(opMove (some 6) (.tmp 1) 29 "slices.go:125" #[]).op, none⟩,
 ⟨(opCallP p62 (some 7) [(.tmp 5), (.tmp 6)] #[37, 29] 3 "slices.go:125" #[eD 0, eD 1]).op, none⟩,
 ⟨(opBin (some 8) .geq 3 (.tmp 7) (.const (Value.int IntKind.i64 0)) 3 4 "slices.go:125" #[eD 2]).op, none⟩,
 ⟨(opAssign (some 4) (.tmp 8) 4 "slices.go:125" #[eD 3, eC 2, eP 0, eP 1, eP 2, eP 3]).op, none⟩
 ] (by kernel_rfl)))
 (.live [4] .ret)))

noncomputable def f44 : Fun Tryd.prog where
 id := 44
 fn := Tryd.f44
 hf := Tryd.func44
 hname := by kernel_rfl
 body := f44_b
 hbody := by kernel_rfl
 res := [rTmp 4]
 hres := by kernel_rfl
 n := 9
 hn := by kernel_rfl

/-! ### 26: interlock/value.RightRow (37); results 2; slots: 0 r, 1 r -/
noncomputable def f26_b : Sim Tryd.prog :=
 (.seq (.live [0] (.region 0 [
 ⟨(opAssign (some 2) (.const (Value.bool false)) 4 "value.go:32" #[]).op, none⟩
 ] (by kernel_rfl)))
 (.seq (.live [2] (.region 1 [
 ⟨(opMove (some 3) (.tmp 0) 37 "value.go:33" #[]).op, none⟩,
 ⟨(opLen (some 4) (.tmp 3) 37 (.slice 24) Tryd.underlying37 3 "value.go:33" #[eD 0]).op, none⟩,
 ⟨(opBin (some 5) .leq 3 (.tmp 4) (.const (Value.int IntKind.i64 8)) 3 4 "value.go:33" #[eD 1]).op, none⟩,
 ⟨(opMove (some 6) (.tmp 5) 4 "value.go:33" #[eD 2]).op, none⟩,
 ⟨(opMove (some 7) (.tmp 0) 37 "value.go:33" #[eG 3]).op, (some (3, 6, true))⟩,
 ⟨opCall (f44.orc 0) (some 8) [(.tmp 7), (.func 45)] #[37, 29] 4 "value.go:33" #[eD 4, eC 3, eG 3], (some (3, 6, true))⟩,
 ⟨(opNot (some 9) 4 (.tmp 8) 4 "value.go:33" #[eD 5, eG 3]).op, (some (3, 6, true))⟩,
 ⟨(opPick (some 10) (.tmp 6) (.tmp 9) (.const (Value.bool false)) 4 "value.go:33" #[eD 3, eD 6]).op, none⟩,
 ⟨(opAssign (some 2) (.tmp 10) 4 "value.go:33" #[eD 7, eC 5, eP 0, eP 1, eP 2, eP 3, eP 4, eP 5, eP 6, eP 7]).op, none⟩
 ] (by kernel_rfl)))
 (.live [2] .ret)))

noncomputable def f26 : Fun Tryd.prog where
 id := 26
 fn := Tryd.f26
 hf := Tryd.func26
 hname := by kernel_rfl
 body := f26_b
 hbody := by kernel_rfl
 res := [rTmp 2]
 hres := by kernel_rfl
 n := 11
 hn := by kernel_rfl

end Go.Proofs.YtcfedmheblbdnaaDoor.Z

/- What the functions' runs come to; the right sides were printed by a tool, Lean checks them. -/
set_option linter.unusedVariables false
set_option maxRecDepth 100000
namespace Go.Proofs.YtcfedmheblbdnaaDoor.Z
open Go Go.V Go.RowKit Go.Proofs.YtcfedmheblbdnaaDoor.V

theorem rr_run (F : Nat) (z : Bool) (l : List (List AV)) (st : St) :
 (f26.run F [.ns z 3 l] st : Ans) =
 branch (AV.bool (decide ((↑l.length : Int) ≤ (8 : Int))))
 (branch (AV.bool (okN (z, l))) (some (Fin.ret (AV.bool !decide (badIx (rowsV l) 0 ≥ (0 : Int))), st)) none)
 (some (Fin.ret (AV.bool false), st)) := by kernel_rfl

end Go.Proofs.YtcfedmheblbdnaaDoor.Z

/- Values: RightRow, as a callee. -/
set_option linter.unusedVariables false
namespace Go.Proofs.YtcfedmheblbdnaaDoor.Z
open Go.Proofs.YtcfedmheblbdnaaDoor.V
open Go Go.V Go.RowKit

theorem rr_spec (z : Bool) (l : List (List AV)) (st : St) (h : okV l = true) : f26.run 0 [.ns z 3 l] st = some (.ret (.bool (rrV l)), st) := by
  rw [rr_run, rrV]
  by_cases h8 : (l.length : Int) ≤ 8
  · rw [decide_eq_true h8, branch_true, branch_of (okN_iff.mpr ⟨h, show l.length ≤ 1000 by omega⟩), badIx_ge, Bool.not_not, Bool.true_and]
  · rw [decide_eq_false h8, branch_false, Bool.false_and]
noncomputable def p26 : POrc Tryd.prog := f26.pureIf dec1r (fun a => [nsA a]) dec1r_enc (fun a => okV a.2) (fun a => .bool (rrV a.2)) (fun _ _ => ⟨rfl, fun _ _ => trivial⟩) fun a h => ⟨0, fun st => rr_spec a.1 a.2 st h⟩
end Go.Proofs.YtcfedmheblbdnaaDoor.Z

/- The functions' pieces, as told by gen.py. -/
set_option linter.unusedVariables false
set_option maxRecDepth 20000
namespace Go.Proofs.YtcfedmheblbdnaaDoor.K
open Go Go.V Go.RowKit

theorem sz5 : (Tryd.prog.info? 5).map (·.size) = some 1 := by kernel_rfl
theorem fl89_0 : fieldB Tryd.prog 89 0 0 1 false = true := by kernel_rfl
theorem sz46 : (Tryd.prog.info? 46).map (·.size) = some 1 := by kernel_rfl
theorem fl89_1 : fieldB Tryd.prog 89 1 1 1 false = true := by kernel_rfl
theorem sz4 : (Tryd.prog.info? 4).map (·.size) = some 1 := by kernel_rfl
theorem ze5 : (Tryd.prog.info? 5).bind (·.zero) = some (.int .u8 0) := by kernel_rfl
theorem by5 : (Tryd.prog.info? 5).map (·.bytes) = some 1 := by kernel_rfl
theorem el46 : ElemOf Tryd.prog 46 5 1 1 (.int .u8 0) := ⟨Tryd.underlying46, sz5, by5, ze5, by kernel_rfl, by decide⟩
/-! ### 74: interlock/bits.digits (46); results 2, 3; slots: 0 b, 1 b, 4 u, 5 i, 6 c, 7 d -/
/-- A loop's round; at its head live: 4 u, 12 , 13 , 14  -/
noncomputable def f74_l0 : Sim Tryd.prog :=
 (.seq (.live [4, 12, 13, 14, 15] (.region 3 [
 ⟨(opBin (some 15) .lss 3 (.tmp 14) (.tmp 13) 3 0 "bits.go:55" #[]).op, none⟩
 ] (by kernel_rfl)))
 (.seq (.cond (.tmp 15)
 .skip
 (.live [] (.exit 0)))
 (.seq (.block 1 (.seq (.live [4, 5, 6, 12, 13, 14] (.region 4 [
 ⟨(opMove (some 16) (.tmp 14) 3 "bits.go:55" #[]).op, none⟩,
 ⟨(opIndexAddr (some 17) 46 (.tmp 12) (.tmp 14) 5 1 Tryd.underlying46 sz5 0 "bits.go:55" #[]).op, none⟩,
 ⟨(opLoad (some 18) 5 (.tmp 17) (.int .u8) Tryd.underlying5 1 sz5 5 "bits.go:55" #[eD 1]).op, none⟩,
 ⟨(opAssign (some 5) (.tmp 16) 3 "bits.go:55" #[eD 0, eP 0, eP 1, eP 2]).op, none⟩,
 ⟨(opAssign (some 6) (.tmp 18) 5 "bits.go:55" #[eD 2, eC 3, eP 0, eP 1, eP 2, eP 3]).op, none⟩
 ] (by kernel_rfl)))
 (.seq (.live [4, 5, 6, 7, 12, 13, 14] (.region 5 [
 ⟨(opMove (some 19) (.tmp 6) 5 "bits.go:56" #[]).op, none⟩,
 ⟨(opBin (some 20) .andNot 5 (.tmp 19) (.const (Value.int IntKind.u8 128)) 5 5 "bits.go:56" #[eD 0]).op, none⟩,
 ⟨(opConvInt (some 21) 5 84 (.tmp 20) (.int .u8) Tryd.underlying5 .u64 Tryd.underlying84 84 "bits.go:56" #[eD 1]).op, none⟩,
 ⟨(opAssign (some 7) (.tmp 21) 84 "bits.go:56" #[eD 2, eP 0, eP 1, eP 2]).op, none⟩
 ] (by kernel_rfl)))
 (.seq (.seq (.live [4, 5, 6, 7, 12, 13, 14, 27] (.region 6 [
 ⟨(opMove (some 22) (.tmp 5) 3 "bits.go:57" #[]).op, none⟩,
 ⟨(opBin (some 23) .eql 3 (.tmp 22) (.const (Value.int IntKind.i64 9)) 3 4 "bits.go:57" #[eD 0]).op, none⟩,
 ⟨(opMove (some 24) (.tmp 23) 4 "bits.go:57" #[eD 1]).op, none⟩,
 ⟨(opMove (some 25) (.tmp 7) 84 "bits.go:57" #[eG 2]).op, (some (2, 24, true))⟩,
 ⟨(opBin (some 26) .gtr 84 (.tmp 25) (.const (Value.int IntKind.u64 1)) 84 4 "bits.go:57" #[eD 3, eG 2]).op, (some (2, 24, true))⟩,
 ⟨(opPick (some 27) (.tmp 24) (.tmp 26) (.const (Value.bool false)) 4 "bits.go:57" #[eD 2, eD 4]).op, none⟩
 ] (by kernel_rfl)))
 (.cond (.tmp 27)
 (.seq (.live [2, 3] (.region 7 [
 ⟨(opAssign (some 2) (.const (Value.int IntKind.u64 0)) 84 "bits.go:58" #[]).op, none⟩,
 ⟨(opAssign (some 3) (.const (Value.int IntKind.i64 0)) 3 "bits.go:58" #[eC 0, eP 0]).op, none⟩
 ] (by kernel_rfl)))
 (.live [2, 3] .ret))
 .skip))
 (.seq (.live [4, 5, 6, 7, 12, 13, 14] (.region 8 [
 ⟨(opMove (some 28) (.tmp 4) 84 "bits.go:60" #[]).op, none⟩,
 ⟨(opMove (some 29) (.tmp 7) 84 "bits.go:60" #[]).op, none⟩,
 ⟨(opMove (some 30) (.tmp 5) 3 "bits.go:60" #[]).op, none⟩,
 ⟨(opBin (some 31) .mul 3 (.const (Value.int IntKind.i64 7)) (.tmp 30) 3 3 "bits.go:60" #[eD 2]).op, none⟩,
 ⟨(opBin (some 32) .shl 84 (.tmp 29) (.tmp 31) 3 84 "bits.go:60" #[eD 1, eD 3]).op, none⟩,
 ⟨(opBin (some 33) .or 84 (.tmp 28) (.tmp 32) 84 84 "bits.go:60" #[eD 0, eD 4]).op, none⟩,
 ⟨(opAssign (some 4) (.tmp 33) 84 "bits.go:60" #[eD 5, eP 0, eP 1, eP 2, eP 3, eP 4, eP 5]).op, none⟩
 ] (by kernel_rfl)))
 (.seq (.live [4, 5, 7, 12, 13, 14, 35] (.region 9 [
 ⟨(opMove (some 34) (.tmp 6) 5 "bits.go:61" #[]).op, none⟩,
 ⟨(opBin (some 35) .lss 5 (.tmp 34) (.const (Value.int IntKind.u8 128)) 5 4 "bits.go:61" #[eD 0]).op, none⟩
 ] (by kernel_rfl)))
 (.cond (.tmp 35)
 (.seq (.seq (.live [4, 5, 41] (.region 10 [
 ⟨(opMove (some 36) (.tmp 7) 84 "bits.go:62" #[]).op, none⟩,
 ⟨(opBin (some 37) .eql 84 (.tmp 36) (.const (Value.int IntKind.u64 0)) 84 4 "bits.go:62" #[eD 0]).op, none⟩,
 ⟨(opMove (some 38) (.tmp 37) 4 "bits.go:62" #[eD 1]).op, none⟩,
 ⟨(opMove (some 39) (.tmp 5) 3 "bits.go:62" #[eG 2]).op, (some (2, 38, true))⟩,
 ⟨(opBin (some 40) .gtr 3 (.tmp 39) (.const (Value.int IntKind.i64 0)) 3 4 "bits.go:62" #[eD 3, eG 2]).op, (some (2, 38, true))⟩,
 ⟨(opPick (some 41) (.tmp 38) (.tmp 40) (.const (Value.bool false)) 4 "bits.go:62" #[eD 2, eD 4]).op, none⟩
 ] (by kernel_rfl)))
 (.cond (.tmp 41)
 (.seq (.live [2, 3] (.region 11 [
 ⟨(opAssign (some 2) (.const (Value.int IntKind.u64 0)) 84 "bits.go:63" #[]).op, none⟩,
 ⟨(opAssign (some 3) (.const (Value.int IntKind.i64 0)) 3 "bits.go:63" #[eC 0, eP 0]).op, none⟩
 ] (by kernel_rfl)))
 (.live [2, 3] .ret))
 .skip))
 (.seq (.live [2, 3] (.region 12 [
 ⟨(opMove (some 42) (.tmp 4) 84 "bits.go:65" #[]).op, none⟩,
 ⟨(opMove (some 43) (.tmp 5) 3 "bits.go:65" #[{ on := 3, ground := (Ground.gcOnly Departure.lateStores) }]).op, none⟩,
 ⟨(opBin (some 44) .add 3 (.tmp 43) (.const (Value.int IntKind.i64 1)) 3 3 "bits.go:65" #[eD 1, { on := 3, ground := (Ground.gcOnly Departure.lateStores) }]).op, none⟩,
 ⟨(opAssign (some 2) (.tmp 42) 84 "bits.go:65" #[eD 0, eP 0, { on := 1, ground := (Ground.textOnly Departure.lateStores) }, { on := 2, ground := (Ground.textOnly Departure.lateStores) }]).op, none⟩,
 ⟨(opAssign (some 3) (.tmp 44) 3 "bits.go:65" #[eD 2, eC 3, eP 0, eP 1, eP 2, eP 3]).op, none⟩
 ] (by kernel_rfl)))
 (.live [2, 3] .ret)))
 .skip)))))))
 (.live [4, 12, 13, 14] (.region 13 [
 ⟨(opBin (some 45) .add 3 (.tmp 14) (.const (Value.int IntKind.i64 1)) 3 3 "bits.go:55" #[]).op, none⟩,
 ⟨(opMove (some 14) (.tmp 45) 3 "bits.go:55" #[eD 0]).op, none⟩
 ] (by kernel_rfl))))))

/-- What follows a loop. -/
noncomputable def f74_r0 : Sim Tryd.prog :=
 (.seq (.live [2, 3] (.region 14 [
 ⟨(opAssign (some 2) (.const (Value.int IntKind.u64 0)) 84 "bits.go:68" #[]).op, none⟩,
 ⟨(opAssign (some 3) (.const (Value.int IntKind.i64 0)) 3 "bits.go:68" #[eC 0, eP 0]).op, none⟩
 ] (by kernel_rfl)))
 (.live [2, 3] .ret))

noncomputable def f74_b : Sim Tryd.prog :=
 (.seq (.live [0] (.region 0 [
 ⟨(opAssign (some 2) (.const (Value.int IntKind.u64 0)) 84 "bits.go:53" #[]).op, none⟩,
 ⟨(opAssign (some 3) (.const (Value.int IntKind.i64 0)) 3 "bits.go:53" #[eC 0]).op, none⟩
 ] (by kernel_rfl)))
 (.seq (.live [0, 4] (.region 1 [
 ⟨(opAssign (some 4) (.const (Value.int IntKind.u64 0)) 84 "bits.go:54" #[]).op, none⟩
 ] (by kernel_rfl)))
 (.seq (.seq (.live [4, 12, 13, 14] (.region 2 [
 ⟨(opMove (some 8) (.tmp 0) 46 "bits.go:55" #[]).op, none⟩,
 ⟨(opMove (some 9) (.tmp 0) 46 "bits.go:55" #[]).op, none⟩,
 ⟨(opLen (some 10) (.tmp 9) 46 (.slice 5) Tryd.underlying46 3 "bits.go:55" #[eD 1]).op, none⟩,
 ⟨(opMinMax (some 11) false (.tmp 10) [(.const (Value.int IntKind.i64 10))] #[3, 3] 3 "bits.go:55" #[eD 2]).op, none⟩,
 ⟨(opSlice (some 12) 46 (.tmp 8) none (some (.tmp 11)) none 5 1 Tryd.underlying46 sz5 46 "bits.go:55" #[eD 0, eD 3]).op, none⟩,
 ⟨(opLen (some 13) (.tmp 12) 46 (.slice 5) Tryd.underlying46 3 "bits.go:55" #[eD 4]).op, none⟩,
 ⟨(opMove (some 14) (.const (Value.int IntKind.i64 0)) 3 "bits.go:55" #[]).op, none⟩
 ] (by kernel_rfl)))
 (.block 0 (.loop [4, 12, 13, 14] f74_l0)))
 f74_r0)))

noncomputable def f74 : Fun Tryd.prog where
 id := 74
 fn := Tryd.f74
 hf := Tryd.func74
 hname := by kernel_rfl
 body := f74_b
 hbody := by kernel_rfl
 res := [rTmp 2, rTmp 3]
 hres := by kernel_rfl
 n := 46
 hn := by kernel_rfl

/-! ### 75: interlock/bits.unfold (84); results 2; slots: 0 u, 1 u -/
noncomputable def f75_b : Sim Tryd.prog :=
 (.seq (.live [0] (.region 0 [
 ⟨(opAssign (some 2) (.const (Value.int IntKind.i64 0)) 3 "bits.go:16" #[]).op, none⟩
 ] (by kernel_rfl)))
 (.seq (.live [2] (.region 1 [
 ⟨(opMove (some 3) (.tmp 0) 84 "bits.go:16" #[]).op, none⟩,
 ⟨(opBin (some 4) .shr 84 (.tmp 3) (.const (Value.int IntKind.u64 1)) 80 84 "bits.go:16" #[eD 0]).op, none⟩,
 ⟨(opConvInt (some 5) 84 3 (.tmp 4) (.int .u64) Tryd.underlying84 .i64 Tryd.underlying3 3 "bits.go:16" #[eD 1]).op, none⟩,
 ⟨(opMove (some 6) (.tmp 0) 84 "bits.go:16" #[]).op, none⟩,
 ⟨(opBin (some 7) .and 84 (.tmp 6) (.const (Value.int IntKind.u64 1)) 84 84 "bits.go:16" #[eD 3]).op, none⟩,
 ⟨(opConvInt (some 8) 84 3 (.tmp 7) (.int .u64) Tryd.underlying84 .i64 Tryd.underlying3 3 "bits.go:16" #[eD 4]).op, none⟩,
 ⟨(opNeg (some 9) 3 (.tmp 8) 3 "bits.go:16" #[eD 5]).op, none⟩,
 ⟨(opBin (some 10) .xor 3 (.tmp 5) (.tmp 9) 3 3 "bits.go:16" #[eD 2, eD 6]).op, none⟩,
 ⟨(opAssign (some 2) (.tmp 10) 3 "bits.go:16" #[eD 7, eP 0, eP 1, eP 2, eP 3, eP 4, eP 5, eP 6, eP 7]).op, none⟩
 ] (by kernel_rfl)))
 (.live [2] .ret)))

noncomputable def f75 : Fun Tryd.prog where
 id := 75
 fn := Tryd.f75
 hf := Tryd.func75
 hname := by kernel_rfl
 body := f75_b
 hbody := by kernel_rfl
 res := [rTmp 2]
 hres := by kernel_rfl
 n := 11
 hn := by kernel_rfl

/-! ### 61: interlock/bits.fold (3); results 2; slots: 0 n, 1 n -/
noncomputable def f61_b : Sim Tryd.prog :=
 (.seq (.live [0] (.region 0 [
 ⟨(opAssign (some 2) (.const (Value.int IntKind.u64 0)) 84 "bits.go:13" #[]).op, none⟩
 ] (by kernel_rfl)))
 (.seq (.live [2] (.region 1 [
 ⟨(opMove (some 3) (.tmp 0) 3 "bits.go:13" #[]).op, none⟩,
 ⟨(opConvInt (some 4) 3 84 (.tmp 3) (.int .i64) Tryd.underlying3 .u64 Tryd.underlying84 84 "bits.go:13" #[eD 0]).op, none⟩,
 ⟨(opBin (some 5) .shl 84 (.tmp 4) (.const (Value.int IntKind.u64 1)) 80 84 "bits.go:13" #[eD 1]).op, none⟩,
 ⟨(opMove (some 6) (.tmp 0) 3 "bits.go:13" #[]).op, none⟩,
 ⟨(opBin (some 7) .shr 3 (.tmp 6) (.const (Value.int IntKind.u64 63)) 80 3 "bits.go:13" #[eD 3]).op, none⟩,
 ⟨(opConvInt (some 8) 3 84 (.tmp 7) (.int .i64) Tryd.underlying3 .u64 Tryd.underlying84 84 "bits.go:13" #[eD 4]).op, none⟩,
 ⟨(opBin (some 9) .xor 84 (.tmp 5) (.tmp 8) 84 84 "bits.go:13" #[eD 2, eD 5]).op, none⟩,
 ⟨(opAssign (some 2) (.tmp 9) 84 "bits.go:13" #[eD 6, eP 0, eP 1, eP 2, eP 3, eP 4, eP 5, eP 6]).op, none⟩
 ] (by kernel_rfl)))
 (.live [2] .ret)))

noncomputable def f61 : Fun Tryd.prog where
 id := 61
 fn := Tryd.f61
 hf := Tryd.func61
 hname := by kernel_rfl
 body := f61_b
 hbody := by kernel_rfl
 res := [rTmp 2]
 hres := by kernel_rfl
 n := 10
 hn := by kernel_rfl

/-! ### 28: interlock/interlockref00.SameBytes (46, 46); results 4; slots: 0 a, 1 b, 2 a, 3 b, 5 i -/
/-! ### 65: (*interlock/bits.Reader).fail (65); results ; slots: 0 r, 1 r -/
noncomputable def f65_b : Sim Tryd.prog :=
 (.live [] (.region 0 [
 ⟨(opMove (some 2) (.tmp 0) 65 "bits.go:50" #[]).op, none⟩,
 ⟨(opMove (some 3) (.tmp 0) 65 "bits.go:50" #[{ on := 4, ground := (Ground.gcOnly Departure.lateStores) }]).op, none⟩,
 ⟨(opNilCheck (some 4) (.tmp 2) 0 "bits.go:50" #[eD 0, eP 0, { on := 1, ground := (Ground.textOnly Departure.lateStores) }]).op, none⟩,
 ⟨(opFieldAddr (some 5) 89 (.tmp 4) 0 0 1 false fl89_0 (by decide) 0 "bits.go:50" #[eD 2, eP 0, { on := 1, ground := (Ground.textOnly Departure.lateStores) }]).op, none⟩,
 ⟨(opStore none 46 (.tmp 5) (.const (Value.slice none 0 0)) 1 sz46 0 "bits.go:50" #[eD 3, eP 0, { on := 1, ground := (Ground.textOnly Departure.lateStores) }]).op, none⟩,
 ⟨(opNilCheck (some 6) (.tmp 3) 0 "bits.go:50" #[eD 1, eP 0, eP 1, eP 2, eP 3, eP 4]).op, none⟩,
 ⟨(opFieldAddr (some 7) 89 (.tmp 6) 1 1 1 false fl89_1 (by decide) 0 "bits.go:50" #[eD 5, eP 0, eP 1, eP 2, eP 3, eP 4]).op, none⟩,
 ⟨(opStore none 4 (.tmp 7) (.const (Value.bool true)) 1 sz4 0 "bits.go:50" #[eD 6, eC 4, eP 0, eP 1, eP 2, eP 3, eP 4]).op, none⟩
 ] (by kernel_rfl)))

noncomputable def f65 : Fun Tryd.prog where
 id := 65
 fn := Tryd.f65
 hf := Tryd.func65
 hname := by kernel_rfl
 body := f65_b
 hbody := by kernel_rfl
 res := []
 hres := by kernel_rfl
 n := 8
 hn := by kernel_rfl

/-! ### 49: (*interlock/bits.Reader).Done (65); results 2; slots: 0 r, 1 r -/
noncomputable def f49_b : Sim Tryd.prog :=
 (.seq (.live [0] (.region 0 [
 ⟨(opAssign (some 2) (.const (Value.bool false)) 4 "bits.go:132" #[]).op, none⟩
 ] (by kernel_rfl)))
 (.seq (.live [2] (.region 1 [
 ⟨(opMove (some 3) (.tmp 0) 65 "bits.go:132" #[]).op, none⟩,
 ⟨(opNilCheck (some 4) (.tmp 3) 0 "bits.go:132" #[eD 0]).op, none⟩,
 ⟨(opFieldAddr (some 5) 89 (.tmp 4) 1 1 1 false fl89_1 (by decide) 0 "bits.go:132" #[eD 1]).op, none⟩,
 ⟨(opLoad (some 6) 4 (.tmp 5) .bool Tryd.underlying4 1 sz4 4 "bits.go:132" #[eD 2]).op, none⟩,
 ⟨(opNot (some 7) 4 (.tmp 6) 4 "bits.go:132" #[eD 3]).op, none⟩,
 ⟨(opMove (some 8) (.tmp 7) 4 "bits.go:132" #[eD 4]).op, none⟩,
 ⟨(opMove (some 9) (.tmp 0) 65 "bits.go:132" #[eG 5]).op, (some (5, 8, true))⟩,
 ⟨(opNilCheck (some 10) (.tmp 9) 0 "bits.go:132" #[eD 6, eG 5]).op, (some (5, 8, true))⟩,
 ⟨(opFieldAddr (some 11) 89 (.tmp 10) 0 0 1 false fl89_0 (by decide) 0 "bits.go:132" #[eD 7, eG 5]).op, (some (5, 8, true))⟩,
 ⟨(opLoad (some 12) 46 (.tmp 11) (.slice 5) Tryd.underlying46 1 sz46 46 "bits.go:132" #[eD 8, eG 5]).op, (some (5, 8, true))⟩,
 ⟨(opLen (some 13) (.tmp 12) 46 (.slice 5) Tryd.underlying46 3 "bits.go:132" #[eD 9, eG 5]).op, (some (5, 8, true))⟩,
 ⟨(opBin (some 14) .eql 3 (.tmp 13) (.const (Value.int IntKind.i64 0)) 3 4 "bits.go:132" #[eD 10, eG 5]).op, (some (5, 8, true))⟩,
 ⟨(opPick (some 15) (.tmp 8) (.tmp 14) (.const (Value.bool false)) 4 "bits.go:132" #[eD 5, eD 11]).op, none⟩,
 ⟨(opAssign (some 2) (.tmp 15) 4 "bits.go:132" #[eD 12, eC 5, eP 0, eP 1, eP 2, eP 3, eP 4, eP 5, eP 6, eP 7, eP 8, eP 9, eP 10, eP 11, eP 12]).op, none⟩
 ] (by kernel_rfl)))
 (.live [2] .ret)))

noncomputable def f49 : Fun Tryd.prog where
 id := 49
 fn := Tryd.f49
 hf := Tryd.func49
 hname := by kernel_rfl
 body := f49_b
 hbody := by kernel_rfl
 res := [rTmp 2]
 hres := by kernel_rfl
 n := 16
 hn := by kernel_rfl

/-! ### 63: slices.Clone[[]byte,byte] (46); results 2; slots: 0 s, 1 s -/
noncomputable def f63_b : Sim Tryd.prog :=
 (.seq (.live [0] (.region 0 [
 ⟨(opAssign (some 2) (.const (Value.slice none 0 0)) 46 "slices.go:355" #[]).op, none⟩
 ] (by kernel_rfl)))
 (.seq (.seq (.live [0, 4] (.region 1 [
 ⟨(opMove (some 3) (.tmp 0) 46 "slices.go:357" #[]).op, none⟩,
 ⟨(opEq (some 4) 46 (.slice 5) Tryd.underlying46 (.tmp 3) (.const (Value.slice none 0 0)) (.inl rfl) 46 4 "slices.go:357" #[eD 0]).op, none⟩
 ] (by kernel_rfl)))
 (.cond (.tmp 4)
 (.seq (.live [2] (.region 2 [
 ⟨(opAssign (some 2) (.const (Value.slice none 0 0)) 46 "slices.go:358" #[]).op, none⟩
 ] (by kernel_rfl)))
 (.live [2] .ret))
 .skip))
 (.seq (.live [2] (.region 3 [
 ⟨(opBuildSlice (some 5) 46 0 [] 5 1 1 (.int .u8 0) el46 (by kernel_rfl) (by decide) 46 "slices.go:362" #[]).op, none⟩,
 ⟨(opMove (some 6) (.tmp 0) 46 "slices.go:362" #[]).op, none⟩,
 ⟨(opAppend (some 7) (.tmp 5) (.tmp 6) 46 46 5 1 1 (.int .u8 0) el46 (.slice 5) Tryd.underlying46 rfl 46 "slices.go:362" #[eD 0, eD 1]).op, none⟩,
 ⟨(opAssign (some 2) (.tmp 7) 46 "slices.go:362" #[eD 2, eC 2, eP 0, eP 1, eP 2]).op, none⟩
 ] (by kernel_rfl)))
 (.live [2] .ret))))

noncomputable def f63 : Fun Tryd.prog where
 id := 63
 fn := Tryd.f63
 hf := Tryd.func63
 hname := by kernel_rfl
 body := f63_b
 hbody := by kernel_rfl
 res := [rTmp 2]
 hres := by kernel_rfl
 n := 8
 hn := by kernel_rfl

end Go.Proofs.YtcfedmheblbdnaaDoor.K

/- What the functions' runs come to; the right sides were printed by a tool, Lean checks them. -/
set_option linter.unusedVariables false
set_option maxRecDepth 100000
namespace Go.Proofs.YtcfedmheblbdnaaDoor.K
open Go Go.V Go.RowKit

theorem unfold_run (u : Int) (st : St) :
 (f75.run 0 [.int .u64 u] st : Ans) =
 some
 (Fin.ret
 (AV.int IntKind.i64
 (bitsI BinOp.xor IntKind.i64 (IntKind.i64.wrap (u.fdiv (2 : Int)))
 (IntKind.i64.wrap ((0 : Int) - IntKind.i64.wrap (bitsI BinOp.and IntKind.u64 u (1 : Int)))))),
 st) := by kernel_rfl

theorem digits_run (F : Nat) (f : Bool) (l : List (List AV)) (st : St) :
 (f74.run F [.sl 1 f l] st : Ans) =
 if
 (0 : Int) ≤ leastI false (↑l.length : Int) (10 : Int) ∧
 leastI false (↑l.length : Int) (10 : Int) ≤ (↑l.length : Int) then
 loopRun (f74_l0.run F) [4, 12, 13, 14]
 (Cont.block 0 (Cont.then (f74_r0.run F (f74.leaveK Fun.done)) (f74.leaveK Fun.done))) F
 (Env.mk 46
 [(4, AV.int IntKind.u64 (0 : Int)),
 (12,
 AV.sl 1 (f && (leastI false (↑l.length : Int) (10 : Int)).toNat.beq l.length)
 (List.drop 0 (List.take (leastI false (↑l.length : Int) (10 : Int)).toNat l))),
 (13,
 AV.int IntKind.i64
 (↑(List.drop 0 (List.take (leastI false (↑l.length : Int) (10 : Int)).toNat l)).length : Int)),
 (14, AV.int IntKind.i64 (0 : Int))])
 st
 else none := by kernel_rfl

theorem digits_nil (F : Nat) (st : St) :
 (f74.run F.succ [.nilsl] st : Ans) =
 some (Fin.ret (AV.tup [AV.int IntKind.u64 (0 : Int), AV.int IntKind.i64 (0 : Int)]), st) := by kernel_rfl

theorem digits_round_raw (F n : Nat) (K : Cont) (u i c : Int) (f : Bool) (l : List (List AV)) (st : St) :
 (loopRun (f74_l0.run F) [4, 12, 13, 14] K n.succ (Env.mk 46 [(4, .int .u64 u), (12, .sl 1 f l), (13, .int .i64 l.length), (14, .int .i64 i)]) st : Ans) =
 branch (AV.bool (decide (i < (↑l.length : Int))))
 (onSome (elemAt l i) none fun (o : List AV) =>
 onCons o none fun (x : AV) (l_1 : List AV) =>
 onInt x fun (a : IntKind) (a_1 : Int) =>
 if a = IntKind.u8 then
 branch (AV.bool (i == (9 : Int)))
 (branch (AV.bool (decide (IntKind.u64.wrap (bitsI BinOp.andNot a a_1 (128 : Int)) > (1 : Int))))
 (K AX.ret
 (Env.mk 46
 [(2, AV.int IntKind.u64 (0 : Int)), (3, AV.int IntKind.i64 (0 : Int))])
 st)
 (if (0 : Int) ≤ IntKind.i64.wrap ((7 : Int) * i) then
 onInt x fun (a_2 : IntKind) (a_3 : Int) =>
 if a_2 = IntKind.u8 then
 branch (AV.bool (decide (a_3 < (128 : Int))))
 (branch (AV.bool (IntKind.u64.wrap (bitsI BinOp.andNot a a_1 (128 : Int)) == (0 : Int)))
 (branch (AV.bool (decide (i > (0 : Int))))
 (K AX.ret
 (Env.mk 46
 [(2, AV.int IntKind.u64 (0 : Int)), (3, AV.int IntKind.i64 (0 : Int))])
 st)
 (K AX.ret
 (Env.mk 46
 [(2,
 AV.int IntKind.u64
 (bitsI BinOp.or IntKind.u64 u
 (IntKind.u64.wrap
 (IntKind.u64.wrap (bitsI BinOp.andNot a a_1 (128 : Int)) *
 (2 : Int) ^ min (IntKind.i64.wrap ((7 : Int) * i)).toNat 64)))),
 (3, AV.int IntKind.i64 (IntKind.i64.wrap (i + (1 : Int))))])
 st))
 (K AX.ret
 (Env.mk 46
 [(2,
 AV.int IntKind.u64
 (bitsI BinOp.or IntKind.u64 u
 (IntKind.u64.wrap
 (IntKind.u64.wrap (bitsI BinOp.andNot a a_1 (128 : Int)) *
 (2 : Int) ^ min (IntKind.i64.wrap ((7 : Int) * i)).toNat 64)))),
 (3, AV.int IntKind.i64 (IntKind.i64.wrap (i + (1 : Int))))])
 st))
 (loopRun (f74_l0.run F) [4, 12, 13, 14] K n
 (Env.mk 46
 [(4,
 AV.int IntKind.u64
 (bitsI BinOp.or IntKind.u64 u
 (IntKind.u64.wrap
 (IntKind.u64.wrap (bitsI BinOp.andNot a a_1 (128 : Int)) *
 (2 : Int) ^ min (IntKind.i64.wrap ((7 : Int) * i)).toNat 64)))),
 (12, AV.sl 1 f l), (13, AV.int IntKind.i64 (↑l.length : Int)),
 (14, AV.int IntKind.i64 (IntKind.i64.wrap (i + (1 : Int))))])
 st)
 else none
 else none))
 (if (0 : Int) ≤ IntKind.i64.wrap ((7 : Int) * i) then
 onInt x fun (a_2 : IntKind) (a_3 : Int) =>
 if a_2 = IntKind.u8 then
 branch (AV.bool (decide (a_3 < (128 : Int))))
 (branch (AV.bool (IntKind.u64.wrap (bitsI BinOp.andNot a a_1 (128 : Int)) == (0 : Int)))
 (branch (AV.bool (decide (i > (0 : Int))))
 (K AX.ret
 (Env.mk 46
 [(2, AV.int IntKind.u64 (0 : Int)), (3, AV.int IntKind.i64 (0 : Int))])
 st)
 (K AX.ret
 (Env.mk 46
 [(2,
 AV.int IntKind.u64
 (bitsI BinOp.or IntKind.u64 u
 (IntKind.u64.wrap
 (IntKind.u64.wrap (bitsI BinOp.andNot a a_1 (128 : Int)) *
 (2 : Int) ^ min (IntKind.i64.wrap ((7 : Int) * i)).toNat 64)))),
 (3, AV.int IntKind.i64 (IntKind.i64.wrap (i + (1 : Int))))])
 st))
 (K AX.ret
 (Env.mk 46
 [(2,
 AV.int IntKind.u64
 (bitsI BinOp.or IntKind.u64 u
 (IntKind.u64.wrap
 (IntKind.u64.wrap (bitsI BinOp.andNot a a_1 (128 : Int)) *
 (2 : Int) ^ min (IntKind.i64.wrap ((7 : Int) * i)).toNat 64)))),
 (3, AV.int IntKind.i64 (IntKind.i64.wrap (i + (1 : Int))))])
 st))
 (loopRun (f74_l0.run F) [4, 12, 13, 14] K n
 (Env.mk 46
 [(4,
 AV.int IntKind.u64
 (bitsI BinOp.or IntKind.u64 u
 (IntKind.u64.wrap
 (IntKind.u64.wrap (bitsI BinOp.andNot a a_1 (128 : Int)) *
 (2 : Int) ^ min (IntKind.i64.wrap ((7 : Int) * i)).toNat 64)))),
 (12, AV.sl 1 f l), (13, AV.int IntKind.i64 (↑l.length : Int)),
 (14, AV.int IntKind.i64 (IntKind.i64.wrap (i + (1 : Int))))])
 st)
 else none
 else none)
 else none)
 (K (AX.exit 0) (Env.mk 46 []) st) := by kernel_rfl

theorem digits_round (F n : Nat) (K : Cont) (u i c : Int) (f : Bool) (l : List (List AV)) (st : St) (h0 : elemAt l i = some [.int .u8 c]) :
 (loopRun (f74_l0.run F) [4, 12, 13, 14] K n.succ (Env.mk 46 [(4, .int .u64 u), (12, .sl 1 f l), (13, .int .i64 l.length), (14, .int .i64 i)]) st : Ans) =
 branch (AV.bool (decide (i < (↑l.length : Int))))
 (branch (AV.bool (i == (9 : Int)))
 (branch (AV.bool (decide (IntKind.u64.wrap (bitsI BinOp.andNot IntKind.u8 c (128 : Int)) > (1 : Int))))
 (K AX.ret
 (Env.mk 46 [(2, AV.int IntKind.u64 (0 : Int)), (3, AV.int IntKind.i64 (0 : Int))]) st)
 (if (0 : Int) ≤ IntKind.i64.wrap ((7 : Int) * i) then
 branch (AV.bool (decide (c < (128 : Int))))
 (branch (AV.bool (IntKind.u64.wrap (bitsI BinOp.andNot IntKind.u8 c (128 : Int)) == (0 : Int)))
 (branch (AV.bool (decide (i > (0 : Int))))
 (K AX.ret
 (Env.mk 46
 [(2, AV.int IntKind.u64 (0 : Int)), (3, AV.int IntKind.i64 (0 : Int))])
 st)
 (K AX.ret
 (Env.mk 46
 [(2,
 AV.int IntKind.u64
 (bitsI BinOp.or IntKind.u64 u
 (IntKind.u64.wrap
 (IntKind.u64.wrap (bitsI BinOp.andNot IntKind.u8 c (128 : Int)) *
 (2 : Int) ^ min (IntKind.i64.wrap ((7 : Int) * i)).toNat 64)))),
 (3, AV.int IntKind.i64 (IntKind.i64.wrap (i + (1 : Int))))])
 st))
 (K AX.ret
 (Env.mk 46
 [(2,
 AV.int IntKind.u64
 (bitsI BinOp.or IntKind.u64 u
 (IntKind.u64.wrap
 (IntKind.u64.wrap (bitsI BinOp.andNot IntKind.u8 c (128 : Int)) *
 (2 : Int) ^ min (IntKind.i64.wrap ((7 : Int) * i)).toNat 64)))),
 (3, AV.int IntKind.i64 (IntKind.i64.wrap (i + (1 : Int))))])
 st))
 (loopRun (f74_l0.run F) [4, 12, 13, 14] K n
 (Env.mk 46
 [(4,
 AV.int IntKind.u64
 (bitsI BinOp.or IntKind.u64 u
 (IntKind.u64.wrap
 (IntKind.u64.wrap (bitsI BinOp.andNot IntKind.u8 c (128 : Int)) *
 (2 : Int) ^ min (IntKind.i64.wrap ((7 : Int) * i)).toNat 64)))),
 (12, AV.sl 1 f l), (13, AV.int IntKind.i64 (↑l.length : Int)),
 (14, AV.int IntKind.i64 (IntKind.i64.wrap (i + (1 : Int))))])
 st)
 else none))
 (if (0 : Int) ≤ IntKind.i64.wrap ((7 : Int) * i) then
 branch (AV.bool (decide (c < (128 : Int))))
 (branch (AV.bool (IntKind.u64.wrap (bitsI BinOp.andNot IntKind.u8 c (128 : Int)) == (0 : Int)))
 (branch (AV.bool (decide (i > (0 : Int))))
 (K AX.ret
 (Env.mk 46 [(2, AV.int IntKind.u64 (0 : Int)), (3, AV.int IntKind.i64 (0 : Int))])
 st)
 (K AX.ret
 (Env.mk 46
 [(2,
 AV.int IntKind.u64
 (bitsI BinOp.or IntKind.u64 u
 (IntKind.u64.wrap
 (IntKind.u64.wrap (bitsI BinOp.andNot IntKind.u8 c (128 : Int)) *
 (2 : Int) ^ min (IntKind.i64.wrap ((7 : Int) * i)).toNat 64)))),
 (3, AV.int IntKind.i64 (IntKind.i64.wrap (i + (1 : Int))))])
 st))
 (K AX.ret
 (Env.mk 46
 [(2,
 AV.int IntKind.u64
 (bitsI BinOp.or IntKind.u64 u
 (IntKind.u64.wrap
 (IntKind.u64.wrap (bitsI BinOp.andNot IntKind.u8 c (128 : Int)) *
 (2 : Int) ^ min (IntKind.i64.wrap ((7 : Int) * i)).toNat 64)))),
 (3, AV.int IntKind.i64 (IntKind.i64.wrap (i + (1 : Int))))])
 st))
 (loopRun (f74_l0.run F) [4, 12, 13, 14] K n
 (Env.mk 46
 [(4,
 AV.int IntKind.u64
 (bitsI BinOp.or IntKind.u64 u
 (IntKind.u64.wrap
 (IntKind.u64.wrap (bitsI BinOp.andNot IntKind.u8 c (128 : Int)) *
 (2 : Int) ^ min (IntKind.i64.wrap ((7 : Int) * i)).toNat 64)))),
 (12, AV.sl 1 f l), (13, AV.int IntKind.i64 (↑l.length : Int)),
 (14, AV.int IntKind.i64 (IntKind.i64.wrap (i + (1 : Int))))])
 st)
 else none))
 (K (AX.exit 0) (Env.mk 46 []) st) := by
 rw [digits_round_raw F n K u i c f l st, h0]
 kernel_rfl

theorem digits_end_raw (F n : Nat) (K : Cont) (u i : Int) (f : Bool) (l : List (List AV)) (st : St) :
 (loopRun (f74_l0.run F) [4, 12, 13, 14] K n.succ (Env.mk 46 [(4, .int .u64 u), (12, .sl 1 f l), (13, .int .i64 l.length), (14, .int .i64 i)]) st : Ans) =
 branch (AV.bool (decide (i < (↑l.length : Int))))
 (onSome (elemAt l i) none fun (o : List AV) =>
 onCons o none fun (x : AV) (l_1 : List AV) =>
 onInt x fun (a : IntKind) (a_1 : Int) =>
 if a = IntKind.u8 then
 branch (AV.bool (i == (9 : Int)))
 (branch (AV.bool (decide (IntKind.u64.wrap (bitsI BinOp.andNot a a_1 (128 : Int)) > (1 : Int))))
 (K AX.ret
 (Env.mk 46
 [(2, AV.int IntKind.u64 (0 : Int)), (3, AV.int IntKind.i64 (0 : Int))])
 st)
 (if (0 : Int) ≤ IntKind.i64.wrap ((7 : Int) * i) then
 onInt x fun (a_2 : IntKind) (a_3 : Int) =>
 if a_2 = IntKind.u8 then
 branch (AV.bool (decide (a_3 < (128 : Int))))
 (branch (AV.bool (IntKind.u64.wrap (bitsI BinOp.andNot a a_1 (128 : Int)) == (0 : Int)))
 (branch (AV.bool (decide (i > (0 : Int))))
 (K AX.ret
 (Env.mk 46
 [(2, AV.int IntKind.u64 (0 : Int)), (3, AV.int IntKind.i64 (0 : Int))])
 st)
 (K AX.ret
 (Env.mk 46
 [(2,
 AV.int IntKind.u64
 (bitsI BinOp.or IntKind.u64 u
 (IntKind.u64.wrap
 (IntKind.u64.wrap (bitsI BinOp.andNot a a_1 (128 : Int)) *
 (2 : Int) ^ min (IntKind.i64.wrap ((7 : Int) * i)).toNat 64)))),
 (3, AV.int IntKind.i64 (IntKind.i64.wrap (i + (1 : Int))))])
 st))
 (K AX.ret
 (Env.mk 46
 [(2,
 AV.int IntKind.u64
 (bitsI BinOp.or IntKind.u64 u
 (IntKind.u64.wrap
 (IntKind.u64.wrap (bitsI BinOp.andNot a a_1 (128 : Int)) *
 (2 : Int) ^ min (IntKind.i64.wrap ((7 : Int) * i)).toNat 64)))),
 (3, AV.int IntKind.i64 (IntKind.i64.wrap (i + (1 : Int))))])
 st))
 (loopRun (f74_l0.run F) [4, 12, 13, 14] K n
 (Env.mk 46
 [(4,
 AV.int IntKind.u64
 (bitsI BinOp.or IntKind.u64 u
 (IntKind.u64.wrap
 (IntKind.u64.wrap (bitsI BinOp.andNot a a_1 (128 : Int)) *
 (2 : Int) ^ min (IntKind.i64.wrap ((7 : Int) * i)).toNat 64)))),
 (12, AV.sl 1 f l), (13, AV.int IntKind.i64 (↑l.length : Int)),
 (14, AV.int IntKind.i64 (IntKind.i64.wrap (i + (1 : Int))))])
 st)
 else none
 else none))
 (if (0 : Int) ≤ IntKind.i64.wrap ((7 : Int) * i) then
 onInt x fun (a_2 : IntKind) (a_3 : Int) =>
 if a_2 = IntKind.u8 then
 branch (AV.bool (decide (a_3 < (128 : Int))))
 (branch (AV.bool (IntKind.u64.wrap (bitsI BinOp.andNot a a_1 (128 : Int)) == (0 : Int)))
 (branch (AV.bool (decide (i > (0 : Int))))
 (K AX.ret
 (Env.mk 46
 [(2, AV.int IntKind.u64 (0 : Int)), (3, AV.int IntKind.i64 (0 : Int))])
 st)
 (K AX.ret
 (Env.mk 46
 [(2,
 AV.int IntKind.u64
 (bitsI BinOp.or IntKind.u64 u
 (IntKind.u64.wrap
 (IntKind.u64.wrap (bitsI BinOp.andNot a a_1 (128 : Int)) *
 (2 : Int) ^ min (IntKind.i64.wrap ((7 : Int) * i)).toNat 64)))),
 (3, AV.int IntKind.i64 (IntKind.i64.wrap (i + (1 : Int))))])
 st))
 (K AX.ret
 (Env.mk 46
 [(2,
 AV.int IntKind.u64
 (bitsI BinOp.or IntKind.u64 u
 (IntKind.u64.wrap
 (IntKind.u64.wrap (bitsI BinOp.andNot a a_1 (128 : Int)) *
 (2 : Int) ^ min (IntKind.i64.wrap ((7 : Int) * i)).toNat 64)))),
 (3, AV.int IntKind.i64 (IntKind.i64.wrap (i + (1 : Int))))])
 st))
 (loopRun (f74_l0.run F) [4, 12, 13, 14] K n
 (Env.mk 46
 [(4,
 AV.int IntKind.u64
 (bitsI BinOp.or IntKind.u64 u
 (IntKind.u64.wrap
 (IntKind.u64.wrap (bitsI BinOp.andNot a a_1 (128 : Int)) *
 (2 : Int) ^ min (IntKind.i64.wrap ((7 : Int) * i)).toNat 64)))),
 (12, AV.sl 1 f l), (13, AV.int IntKind.i64 (↑l.length : Int)),
 (14, AV.int IntKind.i64 (IntKind.i64.wrap (i + (1 : Int))))])
 st)
 else none
 else none)
 else none)
 (K (AX.exit 0) (Env.mk 46 []) st) := by kernel_rfl

theorem digits_end (F n : Nat) (K : Cont) (u i : Int) (f : Bool) (l : List (List AV)) (st : St) (h0 : decide (i < (l.length : Int)) = false) :
 (loopRun (f74_l0.run F) [4, 12, 13, 14] K n.succ (Env.mk 46 [(4, .int .u64 u), (12, .sl 1 f l), (13, .int .i64 l.length), (14, .int .i64 i)]) st : Ans) =
 K (AX.exit 0) (Env.mk 46 []) st := by
 rw [digits_end_raw F n K u i f l st, h0]
 kernel_rfl

theorem digits_out (F : Nat) (st : St) :
 ((Cont.block 0 (Cont.then (f74_r0.run F (f74.leaveK Fun.done)) (f74.leaveK Fun.done))) (.exit 0) (Env.mk 46 []) st : Ans) =
 some (Fin.ret (AV.tup [AV.int IntKind.u64 (0 : Int), AV.int IntKind.i64 (0 : Int)]), st) := by kernel_rfl

theorem digits_ret (F : Nat) (u m : Int) (st : St) :
 ((Cont.block 0 (Cont.then (f74_r0.run F (f74.leaveK Fun.done)) (f74.leaveK Fun.done))) .ret (Env.mk 46 [(2, .int .u64 u), (3, .int .i64 m)]) st : Ans) =
 some (Fin.ret (AV.tup [AV.int IntKind.u64 u, AV.int IntKind.i64 m]), st) := by kernel_rfl

theorem clone_run (F : Nat) (f : Bool) (l : List (List AV)) (st : St) :
 (f63.run F [.sl 1 f l] st : Ans) =
 onCons l (some (Fin.ret (AV.sl 1 true []), st)) fun (x : List AV) (l : List (List AV)) =>
 if (0 + (x :: l).length) * 1 ≤ 140737488355328 then
 some (Fin.ret (AV.lg st.tk.length 1 (x :: l)), St.mk st.objs (st.tk ++ [(1, (x :: l).length)]))
 else none := by kernel_rfl

theorem clone_nil (F : Nat) (st : St) :
 (f63.run F [.nilsl] st : Ans) =
 some (Fin.ret AV.nilsl, st) := by kernel_rfl

end Go.Proofs.YtcfedmheblbdnaaDoor.K

/- Facts on numbers as bits. -/
set_option linter.unusedVariables false
set_option linter.unusedSimpArgs false
namespace Go.V

theorem ofIntNat {w : Nat} {x : Nat} (h : x < 2 ^ w) : (BitVec.ofInt w (x : Int)).toNat = x := by
  rw [BitVec.toNat_ofInt]
  have : ((x : Int) % ((2 ^ w : Nat) : Int)) = (x : Int) := Int.emod_eq_of_lt (by omega) (by exact_mod_cast h)
  rw [this]; rfl

theorem wrapNat {k : IntKind} (hs : k.signed = false) {n : Nat} (h : n < 2 ^ k.bits) : k.wrap (n : Int) = n :=
  wrapU hs (by omega) (by exact_mod_cast h)

theorem bitsOr {k : IntKind} (hs : k.signed = false) {x y : Nat} (hx : x < 2 ^ k.bits) (hy : y < 2 ^ k.bits) : bitsI .or k (x : Int) (y : Int) = ((x ||| y : Nat) : Int) := by
  simp only [bitsI, BitVec.toNat_or, ofIntNat hx, ofIntNat hy]
  exact wrapNat hs (Nat.or_lt_two_pow hx hy)
theorem bitsAnd {k : IntKind} (hs : k.signed = false) {x y : Nat} (hx : x < 2 ^ k.bits) (hy : y < 2 ^ k.bits) : bitsI .and k (x : Int) (y : Int) = ((x &&& y : Nat) : Int) := by
  simp only [bitsI, BitVec.toNat_and, ofIntNat hx, ofIntNat hy]
  exact wrapNat hs (Nat.and_lt_two_pow _ hy)
theorem bitsXor {k : IntKind} (hs : k.signed = false) {x y : Nat} (hx : x < 2 ^ k.bits) (hy : y < 2 ^ k.bits) : bitsI .xor k (x : Int) (y : Int) = ((x ^^^ y : Nat) : Int) := by
  simp only [bitsI, BitVec.toNat_xor, ofIntNat hx, ofIntNat hy]
  exact wrapNat hs (Nat.xor_lt_two_pow hx hy)

theorem or128 {x : Nat} (h : x < 256) : bitsI .or .u8 (x : Int) 128 = ((x % 128 + 128 : Nat) : Int) := by
  have : ∀ x : _root_.Fin 256, (x.1 ||| 128) = x.1 % 128 + 128 := by decide +kernel
  rw [show (128 : Int) = ((128 : Nat) : Int) from rfl, bitsOr rfl (by simpa [IntKind.bits] using h) (by decide)]
  rw [this ⟨x, h⟩]
theorem andNot128 {x : Nat} (h : x < 256) : bitsI .andNot .u8 (x : Int) 128 = ((x % 128 : Nat) : Int) := by
  have h2 : ∀ x : _root_.Fin 256, (BitVec.ofNat 8 x.1 &&& ~~~ BitVec.ofInt 8 128).toNat = x.1 % 128 := by decide +kernel
  have h3 : BitVec.ofInt 8 (x : Int) = BitVec.ofNat 8 x := by
    apply BitVec.eq_of_toNat_eq
    rw [ofIntNat (by simpa using h)]
    simp; omega
  have h4 : (BitVec.ofNat 8 x &&& ~~~ BitVec.ofInt 8 128).toNat = x % 128 := h2 ⟨x, h⟩
  show IntKind.u8.wrap (((BitVec.ofInt 8 (x : Int)) &&& ~~~ BitVec.ofInt 8 128).toNat : Int) = _
  rw [h3, h4]
  exact wrapNat rfl (by simp [IntKind.bits]; omega)

/-- A piece put above what is there. -/
theorem or_above {u d i : Nat} (h : u < 2 ^ i) : u ||| d * 2 ^ i = u + d * 2 ^ i := by
  rw [Nat.or_comm, Nat.mul_comm, ← Nat.two_pow_add_eq_or_of_lt h, Nat.add_comm]

theorem xor_ones {x : Nat} (h : x < 2 ^ 64) : x ^^^ (2 ^ 64 - 1) = 2 ^ 64 - 1 - x := by
  have h1 : ((BitVec.ofNat 64 x) ^^^ BitVec.allOnes 64).toNat = 2 ^ 64 - 1 - x := by
    rw [BitVec.xor_allOnes, BitVec.toNat_not]
    simp [Nat.mod_eq_of_lt h]
  rw [BitVec.toNat_xor, BitVec.toNat_allOnes] at h1
  simpa [Nat.mod_eq_of_lt h] using h1
end Go.V

/- The functions' pieces, as told by gen.py. -/
set_option linter.unusedVariables false
set_option maxRecDepth 20000
namespace Go.Proofs.YtcfedmheblbdnaaDoor.K
open Go Go.V Go.RowKit


/-! ### 42: interlock/bits.Int (3); results 2; slots: 0 n, 1 n, 3 out, 4 u -/
/-- A loop's round; at its head live: 3 out, 4 u -/
noncomputable def f42_l0 : Sim Tryd.prog :=
 (.seq (.seq (.live [3, 4, 8] (.region 3 [
 ⟨(opMove (some 7) (.tmp 4) 84 "bits.go:22" #[]).op, none⟩,
 ⟨(opBin (some 8) .geq 84 (.tmp 7) (.const (Value.int IntKind.u64 128)) 84 4 "bits.go:22" #[eD 0]).op, none⟩
 ] (by kernel_rfl)))
 (.cond (.tmp 8)
 .skip
 (.live [3, 4] (.exit 0))))
 (.seq (.block 1 (.live [3, 4] (.region 5 [
 ⟨(opMove (some 11) (.tmp 3) 46 "bits.go:23" #[]).op, none⟩,
 ⟨(opMove (some 12) (.tmp 4) 84 "bits.go:23" #[]).op, none⟩,
 ⟨(opConvInt (some 13) 84 5 (.tmp 12) (.int .u64) Tryd.underlying84 .u8 Tryd.underlying5 5 "bits.go:23" #[eD 1]).op, none⟩,
 ⟨(opBin (some 14) .or 5 (.tmp 13) (.const (Value.int IntKind.u8 128)) 5 5 "bits.go:23" #[eD 2]).op, none⟩,
 ⟨(opBuildSlice (some 15) 46 1 [(0, (.tmp 14))] 5 1 1 (.int .u8 0) el46 (by kernel_rfl) (by decide) 46 "bits.go:23" #[eD 3]).op, none⟩,
 ⟨(opAppend (some 16) (.tmp 11) (.tmp 15) 46 46 5 1 1 (.int .u8 0) el46 (.slice 5) Tryd.underlying46 rfl 46 "bits.go:23" #[eD 0, eD 4]).op, none⟩,
 ⟨(opAssign (some 3) (.tmp 16) 46 "bits.go:23" #[eD 5, eC 5, eP 0, eP 1, eP 2, eP 3, eP 4, eP 5]).op, none⟩
 ] (by kernel_rfl))))
 (.live [3, 4] (.region 4 [
 ⟨(opMove (some 9) (.tmp 4) 84 "bits.go:22" #[]).op, none⟩,
 ⟨(opBin (some 10) .shr 84 (.tmp 9) (.const (Value.int IntKind.u64 7)) 80 84 "bits.go:22" #[eD 0]).op, none⟩,
 ⟨(opAssign (some 4) (.tmp 10) 84 "bits.go:22" #[eD 1, eP 0, eP 1]).op, none⟩
 ] (by kernel_rfl)))))

/-- What follows a loop. -/
noncomputable def f42_r0 : Sim Tryd.prog :=
 (.seq (.live [2] (.region 6 [
 ⟨(opMove (some 17) (.tmp 3) 46 "bits.go:25" #[]).op, none⟩,
 ⟨(opMove (some 18) (.tmp 4) 84 "bits.go:25" #[]).op, none⟩,
 ⟨(opConvInt (some 19) 84 5 (.tmp 18) (.int .u64) Tryd.underlying84 .u8 Tryd.underlying5 5 "bits.go:25" #[eD 1]).op, none⟩,
 ⟨(opBuildSlice (some 20) 46 1 [(0, (.tmp 19))] 5 1 1 (.int .u8 0) el46 (by kernel_rfl) (by decide) 46 "bits.go:25" #[eD 2]).op, none⟩,
 ⟨(opAppend (some 21) (.tmp 17) (.tmp 20) 46 46 5 1 1 (.int .u8 0) el46 (.slice 5) Tryd.underlying46 rfl 46 "bits.go:25" #[eD 0, eD 3]).op, none⟩,
 ⟨(opAssign (some 2) (.tmp 21) 46 "bits.go:25" #[eD 4, eC 4, eP 0, eP 1, eP 2, eP 3, eP 4]).op, none⟩
 ] (by kernel_rfl)))
 (.live [2] .ret))

noncomputable def f42_b : Sim Tryd.prog :=
 (.seq (.live [0] (.region 0 [
 ⟨(opAssign (some 2) (.const (Value.slice none 0 0)) 46 "bits.go:19" #[]).op, none⟩
 ] (by kernel_rfl)))
 (.seq (.live [0, 3] (.region 1 [
 ⟨(opAssign (some 3) (.const (Value.slice none 0 0)) 46 "bits.go:20" #[]).op, none⟩
 ] (by kernel_rfl)))
 (.seq (.live [3, 4] (.region 2 [
 ⟨(opMove (some 5) (.tmp 0) 3 "bits.go:21" #[]).op, none⟩,
 ⟨opCall (f61.orc 0) (some 6) [(.tmp 5)] #[3] 84 "bits.go:21" #[eD 0], none⟩,
 ⟨(opAssign (some 4) (.tmp 6) 84 "bits.go:21" #[eD 1, eC 1, eP 0, eP 1]).op, none⟩
 ] (by kernel_rfl)))
 (.seq (.block 0 (.loop [3, 4] f42_l0))
 f42_r0))))

noncomputable def f42 : Fun Tryd.prog where
 id := 42
 fn := Tryd.f42
 hf := Tryd.func42
 hname := by kernel_rfl
 body := f42_b
 hbody := by kernel_rfl
 res := [rTmp 2]
 hres := by kernel_rfl
 n := 22
 hn := by kernel_rfl

end Go.Proofs.YtcfedmheblbdnaaDoor.K

/- What the functions' runs come to; the right sides were printed by a tool, Lean checks them. -/
set_option linter.unusedVariables false
set_option maxRecDepth 100000
namespace Go.Proofs.YtcfedmheblbdnaaDoor.K
open Go Go.V Go.RowKit

theorem int_run (F : Nat) (n : Int) (st : St) :
 (f42.run F [.int .i64 n] st : Ans) =
 loopRun (f42_l0.run F) [3, 4]
 (Cont.block 0 (Cont.then (f42_r0.run F (f42.leaveK Fun.done)) (f42.leaveK Fun.done))) F
 (Env.mk 22
 [(3, AV.nilsl),
 (4,
 AV.int IntKind.u64
 (bitsI BinOp.xor IntKind.u64 (IntKind.u64.wrap (IntKind.u64.wrap n * (2 : Int)))
 (IntKind.u64.wrap (n.fdiv (9223372036854775808 : Int)))))])
 st := by kernel_rfl

theorem int_first (F n : Nat) (K : Cont) (u : Int) (st : St) :
 (loopRun (f42_l0.run F) [3, 4] K n.succ (Env.mk 22 [(3, .nilsl), (4, .int .u64 u)]) st : Ans) =
 branch (AV.bool (decide (u ≥ (128 : Int))))
 (loopRun (f42_l0.run F) [3, 4] K n
 (Env.mk 22
 [(3,
 AV.lg st.tk.length 1
 [[AV.int IntKind.u8 (bitsI BinOp.or IntKind.u8 (IntKind.u8.wrap u) (128 : Int))]]),
 (4, AV.int IntKind.u64 (u.fdiv (128 : Int)))])
 (St.mk st.objs (st.tk ++ [(1, 1)])))
 (K (AX.exit 0) (Env.mk 22 [(3, AV.nilsl), (4, AV.int IntKind.u64 u)]) st) := by kernel_rfl

theorem int_round (F n t : Nat) (K : Cont) (u : Int) (l : List (List AV)) (st : St) :
 (loopRun (f42_l0.run F) [3, 4] K n.succ (Env.mk 22 [(3, .lg t 1 l), (4, .int .u64 u)]) st : Ans) =
 branch (AV.bool (decide (u ≥ (128 : Int))))
 (if st.tk[t]? = some (1, l.length) ∧ (l.length + 1) * 1 ≤ 140737488355328 then
 loopRun (f42_l0.run F) [3, 4] K n
 (Env.mk 22
 [(3,
 AV.lg t 1 (l ++ [[AV.int IntKind.u8 (bitsI BinOp.or IntKind.u8 (IntKind.u8.wrap u) (128 : Int))]])),
 (4, AV.int IntKind.u64 (u.fdiv (128 : Int)))])
 (St.mk st.objs (st.tk.set t (1, l.length + 1)))
 else none)
 (K (AX.exit 0) (Env.mk 22 [(3, AV.lg t 1 l), (4, AV.int IntKind.u64 u)]) st) := by kernel_rfl

theorem int_out (F t : Nat) (u : Int) (l : List (List AV)) (st : St) :
 ((Cont.block 0 (Cont.then (f42_r0.run F (f42.leaveK Fun.done)) (f42.leaveK Fun.done))) (.exit 0) (Env.mk 22 [(3, .lg t 1 l), (4, .int .u64 u)]) st : Ans) =
 if st.tk[t]? = some (1, l.length) ∧ (l.length + 1) * 1 ≤ 140737488355328 then
 some
 (Fin.ret (AV.lg t 1 (l ++ [[AV.int IntKind.u8 (IntKind.u8.wrap u)]])),
 St.mk st.objs (st.tk.set t (1, l.length + 1)))
 else none := by kernel_rfl

theorem int_out0 (F : Nat) (u : Int) (st : St) :
 ((Cont.block 0 (Cont.then (f42_r0.run F (f42.leaveK Fun.done)) (f42.leaveK Fun.done))) (.exit 0) (Env.mk 22 [(3, .nilsl), (4, .int .u64 u)]) st : Ans) =
 some
 (Fin.ret (AV.lg st.tk.length 1 [[AV.int IntKind.u8 (IntKind.u8.wrap u)]]),
 St.mk st.objs (st.tk ++ [(1, 1)])) := by kernel_rfl

end Go.Proofs.YtcfedmheblbdnaaDoor.K

/- Bits: numbers as bytes. -/
set_option linter.unusedVariables false
namespace Go.Proofs.YtcfedmheblbdnaaDoor.K
open Go Go.V Go.RowKit

/-- Bytes as rows. -/
def rb (bs : List Nat) : List (List AV) := bs.map fun (b : Nat) => [.int .u8 (b : Int)]
/-- A number's digits, the lowest first; k: how many may follow the first. -/
def encN : Nat → Nat → List Nat
  | 0, u => [u]
  | k + 1, u => if u < 128 then [u] else (u % 128 + 128) :: encN k (u / 128)
/-- A number without a sign. -/
def foldN (n : Int) : Nat := if n < 0 then (-n).toNat * 2 - 1 else n.toNat * 2

theorem rb_append (a b : List Nat) : rb (a ++ b) = rb a ++ rb b := by simp [rb]
theorem rb_length (a : List Nat) : (rb a).length = a.length := by simp [rb]
theorem scoped_rb (n m : Nat) : ∀ l : List Nat, ScopedR n m (rb l)
  | [] => trivial
  | x :: l => ⟨⟨trivial, trivial⟩, scoped_rb n m l⟩
theorem encN_len : ∀ k u, (encN k u).length ≤ k + 1
  | 0, u => by simp [encN]
  | k + 1, u => by
    rw [encN]; split
    · simp
    · simp; exact encN_len k (u / 128)

theorem wrapU64 {n : Nat} (h : n < 18446744073709551616) : IntKind.u64.wrap (n : Int) = n := wrapNat rfl (by simpa [IntKind.bits] using h)
theorem wrapU8 {n : Nat} (h : n < 256) : IntKind.u8.wrap (n : Int) = n := wrapNat rfl (by simpa [IntKind.bits] using h)
theorem wrapU8mod (n : Nat) : IntKind.u8.wrap (n : Int) = ((n % 256 : Nat) : Int) := by
  unfold IntKind.wrap
  simp [IntKind.signed, IntKind.bits]

theorem tk_at (tk : List (Nat × Nat)) (x : Nat × Nat) : (tk ++ [x])[tk.length]? = some x := by simp
theorem tk_set (tk : List (Nat × Nat)) (x y : Nat × Nat) : (tk ++ [x]).set tk.length y = tk ++ [y] := by simp

theorem u_shr (u : Nat) : (u : Int).fdiv 128 = ((u / 128 : Nat) : Int) := by
  rw [Int.fdiv_eq_ediv_of_nonneg _ (by omega)]; rfl
theorem u_or (u : Nat) : bitsI .or .u8 (IntKind.u8.wrap (u : Int)) 128 = ((u % 128 + 128 : Nat) : Int) := by
  rw [wrapU8mod, or128 (by omega), show u % 256 % 128 = u % 128 by omega]

theorem int_loop (F : Nat) (objs : List Ob) (tk : List (Nat × Nat)) : ∀ (k n u : Nat) (l : List (List AV)), u < 128 ^ (k + 1) → u < 18446744073709551616 → k < n → l.length + k < 1000 →
    loopRun (f42_l0.run F) [3, 4] (Cont.block 0 (Cont.then (f42_r0.run F (f42.leaveK Fun.done)) (f42.leaveK Fun.done))) n (Env.mk 22 [(3, .lg tk.length 1 l), (4, .int .u64 u)]) ⟨objs, tk ++ [(1, l.length)]⟩
      = some (.ret (.lg tk.length 1 (l ++ rb (encN k u))), ⟨objs, tk ++ [(1, l.length + (encN k u).length)]⟩)
  | k, 0, u, l, h, hu, hk, hl => by omega
  | 0, n + 1, u, l, h, hu, hk, hl => by
    rw [show n + 1 = n.succ from rfl, int_round, branch_not (by simp; omega), int_out, if_pos ⟨tk_at _ _, by omega⟩]
    rw [wrapU8 (by omega)]
    simp [encN, rb]
  | k + 1, n + 1, u, l, h, hu, hk, hl => by
    rw [show n + 1 = n.succ from rfl, int_round]
    by_cases hb : u < 128
    · rw [branch_not (by simp; omega), int_out, if_pos ⟨tk_at _ _, by omega⟩, wrapU8 (by omega)]
      simp [encN, rb, hb]
    · rw [branch_of (by simp; omega), if_pos ⟨tk_at _ _, by omega⟩, u_shr, u_or]
      simp only [tk_set]
      have ih := int_loop F objs tk k n (u / 128) (l ++ [[.int .u8 ((u % 128 + 128 : Nat) : Int)]]) (Nat.div_lt_of_lt_mul (by rw [Nat.pow_succ] at h; omega)) (by omega) (by omega) (by simp; omega)
      rw [List.length_append, List.length_singleton] at ih
      rw [ih, show l.length + 1 + (encN k (u / 128)).length = l.length + ((encN k (u / 128)).length + 1) by omega]
      simp only [encN, if_neg hb, rb, List.map_cons, List.append_assoc, List.singleton_append, List.length_cons]

theorem int_all (F n : Nat) (st : St) (u : Nat) (hu : u < 18446744073709551616) :
    loopRun (f42_l0.run F) [3, 4] (Cont.block 0 (Cont.then (f42_r0.run F (f42.leaveK Fun.done)) (f42.leaveK Fun.done))) (n + 11) (Env.mk 22 [(3, .nilsl), (4, .int .u64 u)]) st
      = some (.ret (.lg st.tk.length 1 (rb (encN 9 u))), ⟨st.objs, st.tk ++ [(1, (encN 9 u).length)]⟩) := by
  rw [show n + 11 = (n + 10).succ from rfl, int_first]
  by_cases hb : u < 128
  · rw [branch_not (by simp; omega), int_out0, wrapU8 (by omega)]
    simp [encN, rb, hb]
  · rw [branch_of (by simp; omega), u_shr, u_or]
    have ih := int_loop F st.objs st.tk 8 (n + 10) (u / 128) [[.int .u8 ((u % 128 + 128 : Nat) : Int)]] (by omega) (by omega) (by omega) (by simp)
    rw [List.length_singleton] at ih
    rw [ih, show 1 + (encN 8 (u / 128)).length = (encN 8 (u / 128)).length + 1 by omega]
    rw [show encN 9 u = (u % 128 + 128) :: encN 8 (u / 128) from if_neg hb]
    simp only [rb, List.map_cons, List.singleton_append, List.length_cons]

theorem foldN_lt {n : Int} (h1 : -9223372036854775808 ≤ n) (h2 : n ≤ 9223372036854775807) : foldN n < 18446744073709551616 := by
  unfold foldN; split <;> omega
theorem rfold_pos {n : Int} (h2 : n ≤ 9223372036854775807) (h : ¬ n < 0) : IntKind.u64.wrap (IntKind.u64.wrap n * 2) = ((foldN n : Nat) : Int) := by
  obtain ⟨m, rfl⟩ : ∃ m : Nat, n = m := ⟨n.toNat, by omega⟩
  rw [wrapU64 (by omega), show (m : Int) * 2 = ((m * 2 : Nat) : Int) by omega, wrapU64 (by omega)]
  unfold foldN
  rw [if_neg h]
  omega
/-- The program's fold. -/
theorem fold_eq {n : Int} (h1 : -9223372036854775808 ≤ n) (h2 : n ≤ 9223372036854775807) :
    bitsI .xor .u64 (IntKind.u64.wrap (IntKind.u64.wrap n * 2)) (IntKind.u64.wrap (n.fdiv 9223372036854775808)) = ((foldN n : Nat) : Int) := by
  by_cases h : n < 0
  · have e1 : n.fdiv 9223372036854775808 = -1 := by
      rw [Int.fdiv_eq_ediv_of_nonneg _ (by omega)]; omega
    have e2 : IntKind.u64.wrap (-1) = ((18446744073709551615 : Nat) : Int) := by decide
    obtain ⟨m, rfl⟩ : ∃ m : Nat, n = -(m : Int) := ⟨(-n).toNat, by omega⟩
    have e3 : IntKind.u64.wrap (-(m : Int)) = ((18446744073709551616 - m : Nat) : Int) := by
      unfold IntKind.wrap
      simp only [IntKind.signed, IntKind.bits, Bool.false_and, Bool.false_eq_true, if_false]
      omega
    have e4 : IntKind.u64.wrap (((18446744073709551616 - m : Nat) : Int) * 2) = ((18446744073709551616 - 2 * m : Nat) : Int) := by
      unfold IntKind.wrap
      simp only [IntKind.signed, IntKind.bits, Bool.false_and, Bool.false_eq_true, if_false]
      omega
    rw [e1, e2, e3, e4, bitsXor rfl (by simp only [IntKind.bits]; omega) (by decide), show (18446744073709551615 : Nat) = 2 ^ 64 - 1 from rfl, xor_ones (by omega)]
    unfold foldN
    rw [if_pos h]
    omega
  · obtain ⟨m, rfl⟩ : ∃ m : Nat, n = m := ⟨n.toNat, by omega⟩
    have e1 : (m : Int).fdiv 9223372036854775808 = 0 := by
      rw [Int.fdiv_eq_ediv_of_nonneg _ (by omega)]; omega
    rw [e1, rfold_pos h2 h, show IntKind.u64.wrap 0 = ((0 : Nat) : Int) from rfl, bitsXor rfl (by have := foldN_lt (n := (m : Int)) (by omega) h2; simpa [IntKind.bits] using this) (by decide), Nat.xor_zero]

def i64B (n : Int) : Bool := decide (-9223372036854775808 ≤ n) && decide (n ≤ 9223372036854775807)
theorem i64B_spec {n : Int} (h : i64B n = true) : -9223372036854775808 ≤ n ∧ n ≤ 9223372036854775807 := by
  simpa [i64B] using h
/-- A number's bytes. -/
def intBytes (n : Int) : List Nat := encN 9 (foldN n)

theorem f42_spec (n : Int) (h : i64B n = true) (st : St) : f42.run 11 [.int .i64 n] st = some (.ret (.lg st.tk.length 1 (rb (intBytes n))), ⟨st.objs, st.tk ++ [(1, (intBytes n).length)]⟩) := by
  obtain ⟨h1, h2⟩ := i64B_spec h
  rw [int_run, fold_eq h1 h2]
  exact int_all 11 0 st _ (foldN_lt h1 h2)
end Go.Proofs.YtcfedmheblbdnaaDoor.K

/- Bits: numbers as bytes, as callees; equal bytes; copies. -/
set_option linter.unusedVariables false
namespace Go.Proofs.YtcfedmheblbdnaaDoor.K
open Go Go.V Go.RowKit

noncomputable def q42 : OrcS Tryd.prog := f42.effIf dec1i (fun m => [.int .i64 m]) dec1i_enc (fun n _ => i64B n) (fun n st => (.lg st.tk.length 1 (rb (intBytes n)), ⟨st.objs, st.tk ++ [(1, (intBytes n).length)]⟩)) fun n st h => ⟨11, f42_spec n h st⟩
end Go.Proofs.YtcfedmheblbdnaaDoor.K

/- Bits: equal bytes and copies, as callees. -/
set_option linter.unusedVariables false
namespace Go.Proofs.YtcfedmheblbdnaaDoor.K
open Go Go.V Go.RowKit

/-- A slice of bytes. -/
inductive Bt where
  | nil
  | sl (f : Bool) (bs : List Int)
def ri (bs : List Int) : List (List AV) := bs.map fun b => [.int .u8 b]
def Bt.av : Bt → AV
  | .nil => .nilsl
  | .sl f bs => .sl 1 f (ri bs)
def Bt.list : Bt → List Int
  | .nil => []
  | .sl _ bs => bs
def decBt (x : AV) : Option Bt :=
  match x with
  | .nilsl => some .nil
  | .sl 1 f l => match numsOf l with
    | some bs => some (.sl f bs)
    | none => none
  | _ => none
theorem numsOf_eq : ∀ {l : List (List AV)} {bs : List Int}, numsOf l = some bs → l = ri bs
  | [], bs, h => by simp only [numsOf, Option.some.injEq] at h; subst h; rfl
  | r :: l, bs, h => by
    unfold numsOf at h
    split at h
    · split at h
      · rename_i n _ ns hn
        simp only [Option.some.injEq] at h
        subst h
        rw [numsOf_eq hn]; rfl
      · cases h
    · cases h
theorem decBt_av {x : AV} {b : Bt} (h : decBt x = some b) : x = b.av := by
  unfold decBt at h
  split at h
  · cases h; rfl
  · split at h
    · rename_i hn; cases h; rw [numsOf_eq hn]; rfl
    · cases h
  · cases h
theorem decBt_of (b : Bt) : decBt b.av = some b := by
  cases b with
  | nil => rfl
  | sl f bs => simp [Bt.av, decBt, ri, numsOf_map]

def dec2b : List AV → Option (Bt × Bt)
  | [x, y] => match decBt x, decBt y with
    | some a, some b => some (a, b)
    | _, _ => none
  | _ => none
def dec1b : List AV → Option Bt
  | [x] => decBt x
  | _ => none
theorem dec1b_enc (l : List AV) (a : Bt) (h : dec1b l = some a) : l = [a.av] := by
  unfold dec1b at h
  split at h
  · rw [decBt_av h]
  · cases h
def small (b : Bt) : Bool := decide (b.list.length < 140737488355328)

theorem small_sl {f : Bool} {bs : List Int} (h : small (.sl f bs) = true) : bs.length < 140737488355328 := of_decide_eq_true h
/-- What a copy is. -/
noncomputable def p63 : POrc Tryd.prog := (f63.pureIfX dec1b (fun a => [a.av]) dec1b_enc small (fun a => match a with | .nil => .nilsl | .sl _ bs => .sl 1 bs.isEmpty (ri bs)) (fun a n m => by cases a with | nil => trivial | sl f bs => exact scoped_ints _ _ _ _) fun a h => ⟨1, fun st => by
  cases a with
  | nil => exact ⟨.nilsl, [], [], rfl, by show f63.run 1 [.nilsl] st = _; rw [clone_nil]; simp⟩
  | sl f bs =>
    have hs := small_sl h
    cases bs with
    | nil => exact ⟨.sl 1 true [], [], [], rfl, by show f63.run 1 [.sl 1 f []] st = _; rw [clone_run]; simp⟩
    | cons b bs =>
      refine ⟨.lg st.tk.length 1 (ri (b :: bs)), [], [(1, (b :: bs).length)], rfl, ?_⟩
      show f63.run 1 [.sl 1 f ([.int .u8 b] :: ri bs)] st = _
      rw [clone_run, onCons_cons, if_pos (by simp only [List.length_cons, ri, List.length_map] at hs ⊢; omega), List.append_nil]
      simp [ri]⟩).fz
end Go.Proofs.YtcfedmheblbdnaaDoor.K
