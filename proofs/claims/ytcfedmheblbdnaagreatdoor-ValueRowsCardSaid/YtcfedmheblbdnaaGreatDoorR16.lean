/- Merged out of 20 texts: what the claim's code comes to, and why. -/
import Derived.Test.YtcfedmheblbdnaaGreatDoorR15
/- What the functions' runs come to; the right sides were printed by a tool, Lean checks them. -/
set_option linter.unusedVariables false
set_option maxRecDepth 100000
namespace Go.Proofs.YtcfedmheblbdnaaGreatDoor.K
open Go Go.V Go.RowKit

theorem rr_run (F : Nat) (f : Bool) (l : List (List AV)) (os : List Ob) (tk : List (Nat × Nat)) :
 (f32.run F [.ptr 0 0] ⟨.cells [.sl 1 f l, .bool false] :: os, tk⟩ : Ans) =
 loopRun (f32_l0.run F) [0, 3, 4]
 (Cont.block 0 (Cont.then (f32_r0.run F (f32.leaveK Fun.done)) (f32.leaveK Fun.done))) F
 (Env.mk 83
 [(0, AV.ptr 0 0), (3, AV.int IntKind.u64 (0 : Int)),
 (4, AV.int IntKind.i64 (0 : Int))])
 (St.mk (Ob.cells [AV.sl 1 f l, AV.bool false] :: os) tk) := by kernel_rfl

theorem rr_bad (a : AV) (os : List Ob) (tk : List (Nat × Nat)) :
 (f32.run 0 [.ptr 0 0] ⟨.cells [a, .bool true] :: os, tk⟩ : Ans) =
 some (Fin.ret (AV.int IntKind.i64 (0 : Int)), St.mk (Ob.cells [a, AV.bool true] :: os) tk) := by kernel_rfl

theorem rr_round_raw (F n : Nat) (K : Cont) (u i c : Int) (f : Bool) (l : List (List AV)) (os : List Ob) (tk : List (Nat × Nat)) :
 (loopRun (f32_l0.run F) [0, 3, 4] K n.succ (Env.mk 83 [(0, .ptr 0 0), (3, .int .u64 u), (4, .int .i64 i)]) ⟨.cells [.sl 1 f l, .bool false] :: os, tk⟩ : Ans) =
 branch (AV.bool (decide (i < (↑l.length : Int))))
 (branch (AV.bool (decide (i < (10 : Int))))
 (onSome (elemAt l i) none fun (o : List AV) =>
 onCons o none fun (x : AV) (l_1 : List AV) =>
 onInt x fun (a : IntKind) (a_1 : Int) =>
 if a = IntKind.u8 then
 branch (AV.bool (i == (9 : Int)))
 (branch (AV.bool (decide (IntKind.u64.wrap (a_1.tmod (128 : Int)) > (1 : Int))))
 (K (AX.exit 0) (Env.mk 83 [(0, AV.ptr 0 0)])
 (St.mk (Ob.cells [AV.sl 1 f l, AV.bool false] :: os) tk))
 (if (0 : Int) ≤ IntKind.u64.wrap (IntKind.i64.wrap ((7 : Int) * i)) then
 onSome (elemAt l i) none fun (o : List AV) =>
 onCons o none fun (x : AV) (l_2 : List AV) =>
 onInt x fun (a : IntKind) (a_2 : Int) =>
 if a = IntKind.u8 then
 branch (AV.bool (decide (a_2 < (128 : Int))))
 (branch (AV.bool (decide (i > (0 : Int))))
 (branch (AV.bool (IntKind.u64.wrap (a_1.tmod (128 : Int)) == (0 : Int)))
 (K (AX.exit 0) (Env.mk 83 [(0, AV.ptr 0 0)])
 (St.mk (Ob.cells [AV.sl 1 f l, AV.bool false] :: os) tk))
 (if
 (0 : Int) ≤ IntKind.i64.wrap (i + (1 : Int)) ∧
 IntKind.i64.wrap (i + (1 : Int)) ≤ (↑l.length : Int) then
 branch
 (AV.bool
 ((IntKind.u64.wrap
 (u +
 IntKind.u64.wrap
 (IntKind.u64.wrap (a_1.tmod (128 : Int)) *
 (2 : Int) ^
 min (IntKind.u64.wrap (IntKind.i64.wrap ((7 : Int) * i))).toNat
 64))).tmod
 (2 : Int) ==
 (1 : Int)))
 (K AX.ret
 (Env.mk 83
 [(2,
 AV.int IntKind.i64
 (IntKind.i64.wrap
 (IntKind.i64.wrap
 ((0 : Int) -
 IntKind.i64.wrap
 (IntKind.u64.wrap
 ((IntKind.u64.wrap
 (u +
 IntKind.u64.wrap
 (IntKind.u64.wrap (a_1.tmod (128 : Int)) *
 (2 : Int) ^
 min
 (IntKind.u64.wrap
 (IntKind.i64.wrap ((7 : Int) * i))).toNat
 64))).tdiv
 (2 : Int)))) -
 (1 : Int))))])
 (St.mk
 (Ob.cells
 [AV.sl 1 (f && l.length.beq l.length)
 (List.drop (IntKind.i64.wrap (i + (1 : Int))).toNat
 (List.take l.length l)),
 AV.bool false] ::
 os)
 tk))
 (K AX.ret
 (Env.mk 83
 [(2,
 AV.int IntKind.i64
 (IntKind.i64.wrap
 (IntKind.u64.wrap
 ((IntKind.u64.wrap
 (u +
 IntKind.u64.wrap
 (IntKind.u64.wrap (a_1.tmod (128 : Int)) *
 (2 : Int) ^
 min
 (IntKind.u64.wrap
 (IntKind.i64.wrap ((7 : Int) * i))).toNat
 64))).tdiv
 (2 : Int)))))])
 (St.mk
 (Ob.cells
 [AV.sl 1 (f && l.length.beq l.length)
 (List.drop (IntKind.i64.wrap (i + (1 : Int))).toNat
 (List.take l.length l)),
 AV.bool false] ::
 os)
 tk))
 else none))
 (if
 (0 : Int) ≤ IntKind.i64.wrap (i + (1 : Int)) ∧
 IntKind.i64.wrap (i + (1 : Int)) ≤ (↑l.length : Int) then
 branch
 (AV.bool
 ((IntKind.u64.wrap
 (u +
 IntKind.u64.wrap
 (IntKind.u64.wrap (a_1.tmod (128 : Int)) *
 (2 : Int) ^
 min (IntKind.u64.wrap (IntKind.i64.wrap ((7 : Int) * i))).toNat
 64))).tmod
 (2 : Int) ==
 (1 : Int)))
 (K AX.ret
 (Env.mk 83
 [(2,
 AV.int IntKind.i64
 (IntKind.i64.wrap
 (IntKind.i64.wrap
 ((0 : Int) -
 IntKind.i64.wrap
 (IntKind.u64.wrap
 ((IntKind.u64.wrap
 (u +
 IntKind.u64.wrap
 (IntKind.u64.wrap (a_1.tmod (128 : Int)) *
 (2 : Int) ^
 min
 (IntKind.u64.wrap
 (IntKind.i64.wrap ((7 : Int) * i))).toNat
 64))).tdiv
 (2 : Int)))) -
 (1 : Int))))])
 (St.mk
 (Ob.cells
 [AV.sl 1 (f && l.length.beq l.length)
 (List.drop (IntKind.i64.wrap (i + (1 : Int))).toNat
 (List.take l.length l)),
 AV.bool false] ::
 os)
 tk))
 (K AX.ret
 (Env.mk 83
 [(2,
 AV.int IntKind.i64
 (IntKind.i64.wrap
 (IntKind.u64.wrap
 ((IntKind.u64.wrap
 (u +
 IntKind.u64.wrap
 (IntKind.u64.wrap (a_1.tmod (128 : Int)) *
 (2 : Int) ^
 min
 (IntKind.u64.wrap
 (IntKind.i64.wrap ((7 : Int) * i))).toNat
 64))).tdiv
 (2 : Int)))))])
 (St.mk
 (Ob.cells
 [AV.sl 1 (f && l.length.beq l.length)
 (List.drop (IntKind.i64.wrap (i + (1 : Int))).toNat
 (List.take l.length l)),
 AV.bool false] ::
 os)
 tk))
 else none))
 (loopRun (f32_l0.run F) [0, 3, 4] K n
 (Env.mk 83
 [(0, AV.ptr 0 0),
 (3,
 AV.int IntKind.u64
 (IntKind.u64.wrap
 (u +
 IntKind.u64.wrap
 (IntKind.u64.wrap (a_1.tmod (128 : Int)) *
 (2 : Int) ^
 min (IntKind.u64.wrap (IntKind.i64.wrap ((7 : Int) * i))).toNat
 64)))),
 (4, AV.int IntKind.i64 (IntKind.i64.wrap (i + (1 : Int))))])
 (St.mk (Ob.cells [AV.sl 1 f l, AV.bool false] :: os) tk))
 else none
 else none))
 (if (0 : Int) ≤ IntKind.u64.wrap (IntKind.i64.wrap ((7 : Int) * i)) then
 onSome (elemAt l i) none fun (o : List AV) =>
 onCons o none fun (x : AV) (l_2 : List AV) =>
 onInt x fun (a : IntKind) (a_2 : Int) =>
 if a = IntKind.u8 then
 branch (AV.bool (decide (a_2 < (128 : Int))))
 (branch (AV.bool (decide (i > (0 : Int))))
 (branch (AV.bool (IntKind.u64.wrap (a_1.tmod (128 : Int)) == (0 : Int)))
 (K (AX.exit 0) (Env.mk 83 [(0, AV.ptr 0 0)])
 (St.mk (Ob.cells [AV.sl 1 f l, AV.bool false] :: os) tk))
 (if
 (0 : Int) ≤ IntKind.i64.wrap (i + (1 : Int)) ∧
 IntKind.i64.wrap (i + (1 : Int)) ≤ (↑l.length : Int) then
 branch
 (AV.bool
 ((IntKind.u64.wrap
 (u +
 IntKind.u64.wrap
 (IntKind.u64.wrap (a_1.tmod (128 : Int)) *
 (2 : Int) ^
 min (IntKind.u64.wrap (IntKind.i64.wrap ((7 : Int) * i))).toNat
 64))).tmod
 (2 : Int) ==
 (1 : Int)))
 (K AX.ret
 (Env.mk 83
 [(2,
 AV.int IntKind.i64
 (IntKind.i64.wrap
 (IntKind.i64.wrap
 ((0 : Int) -
 IntKind.i64.wrap
 (IntKind.u64.wrap
 ((IntKind.u64.wrap
 (u +
 IntKind.u64.wrap
 (IntKind.u64.wrap (a_1.tmod (128 : Int)) *
 (2 : Int) ^
 min
 (IntKind.u64.wrap
 (IntKind.i64.wrap ((7 : Int) * i))).toNat
 64))).tdiv
 (2 : Int)))) -
 (1 : Int))))])
 (St.mk
 (Ob.cells
 [AV.sl 1 (f && l.length.beq l.length)
 (List.drop (IntKind.i64.wrap (i + (1 : Int))).toNat
 (List.take l.length l)),
 AV.bool false] ::
 os)
 tk))
 (K AX.ret
 (Env.mk 83
 [(2,
 AV.int IntKind.i64
 (IntKind.i64.wrap
 (IntKind.u64.wrap
 ((IntKind.u64.wrap
 (u +
 IntKind.u64.wrap
 (IntKind.u64.wrap (a_1.tmod (128 : Int)) *
 (2 : Int) ^
 min
 (IntKind.u64.wrap
 (IntKind.i64.wrap ((7 : Int) * i))).toNat
 64))).tdiv
 (2 : Int)))))])
 (St.mk
 (Ob.cells
 [AV.sl 1 (f && l.length.beq l.length)
 (List.drop (IntKind.i64.wrap (i + (1 : Int))).toNat
 (List.take l.length l)),
 AV.bool false] ::
 os)
 tk))
 else none))
 (if
 (0 : Int) ≤ IntKind.i64.wrap (i + (1 : Int)) ∧
 IntKind.i64.wrap (i + (1 : Int)) ≤ (↑l.length : Int) then
 branch
 (AV.bool
 ((IntKind.u64.wrap
 (u +
 IntKind.u64.wrap
 (IntKind.u64.wrap (a_1.tmod (128 : Int)) *
 (2 : Int) ^
 min (IntKind.u64.wrap (IntKind.i64.wrap ((7 : Int) * i))).toNat
 64))).tmod
 (2 : Int) ==
 (1 : Int)))
 (K AX.ret
 (Env.mk 83
 [(2,
 AV.int IntKind.i64
 (IntKind.i64.wrap
 (IntKind.i64.wrap
 ((0 : Int) -
 IntKind.i64.wrap
 (IntKind.u64.wrap
 ((IntKind.u64.wrap
 (u +
 IntKind.u64.wrap
 (IntKind.u64.wrap (a_1.tmod (128 : Int)) *
 (2 : Int) ^
 min
 (IntKind.u64.wrap
 (IntKind.i64.wrap ((7 : Int) * i))).toNat
 64))).tdiv
 (2 : Int)))) -
 (1 : Int))))])
 (St.mk
 (Ob.cells
 [AV.sl 1 (f && l.length.beq l.length)
 (List.drop (IntKind.i64.wrap (i + (1 : Int))).toNat (List.take l.length l)),
 AV.bool false] ::
 os)
 tk))
 (K AX.ret
 (Env.mk 83
 [(2,
 AV.int IntKind.i64
 (IntKind.i64.wrap
 (IntKind.u64.wrap
 ((IntKind.u64.wrap
 (u +
 IntKind.u64.wrap
 (IntKind.u64.wrap (a_1.tmod (128 : Int)) *
 (2 : Int) ^
 min
 (IntKind.u64.wrap
 (IntKind.i64.wrap ((7 : Int) * i))).toNat
 64))).tdiv
 (2 : Int)))))])
 (St.mk
 (Ob.cells
 [AV.sl 1 (f && l.length.beq l.length)
 (List.drop (IntKind.i64.wrap (i + (1 : Int))).toNat (List.take l.length l)),
 AV.bool false] ::
 os)
 tk))
 else none))
 (loopRun (f32_l0.run F) [0, 3, 4] K n
 (Env.mk 83
 [(0, AV.ptr 0 0),
 (3,
 AV.int IntKind.u64
 (IntKind.u64.wrap
 (u +
 IntKind.u64.wrap
 (IntKind.u64.wrap (a_1.tmod (128 : Int)) *
 (2 : Int) ^
 min (IntKind.u64.wrap (IntKind.i64.wrap ((7 : Int) * i))).toNat
 64)))),
 (4, AV.int IntKind.i64 (IntKind.i64.wrap (i + (1 : Int))))])
 (St.mk (Ob.cells [AV.sl 1 f l, AV.bool false] :: os) tk))
 else none
 else none)
 else none)
 (K (AX.exit 0) (Env.mk 83 [(0, AV.ptr 0 0)])
 (St.mk (Ob.cells [AV.sl 1 f l, AV.bool false] :: os) tk)))
 (K (AX.exit 0) (Env.mk 83 [(0, AV.ptr 0 0)])
 (St.mk (Ob.cells [AV.sl 1 f l, AV.bool false] :: os) tk)) := by kernel_rfl

theorem rr_round (F n : Nat) (K : Cont) (u i c : Int) (f : Bool) (l : List (List AV)) (os : List Ob) (tk : List (Nat × Nat)) (h0 : elemAt l i = some [.int .u8 c]) :
 (loopRun (f32_l0.run F) [0, 3, 4] K n.succ (Env.mk 83 [(0, .ptr 0 0), (3, .int .u64 u), (4, .int .i64 i)]) ⟨.cells [.sl 1 f l, .bool false] :: os, tk⟩ : Ans) =
 branch (AV.bool (decide (i < (↑l.length : Int))))
 (branch (AV.bool (decide (i < (10 : Int))))
 (branch (AV.bool (i == (9 : Int)))
 (branch (AV.bool (decide (IntKind.u64.wrap (c.tmod (128 : Int)) > (1 : Int))))
 (K (AX.exit 0) (Env.mk 83 [(0, AV.ptr 0 0)])
 (St.mk (Ob.cells [AV.sl 1 f l, AV.bool false] :: os) tk))
 (if (0 : Int) ≤ IntKind.u64.wrap (IntKind.i64.wrap ((7 : Int) * i)) then
 branch (AV.bool (decide (c < (128 : Int))))
 (branch (AV.bool (decide (i > (0 : Int))))
 (branch (AV.bool (IntKind.u64.wrap (c.tmod (128 : Int)) == (0 : Int)))
 (K (AX.exit 0) (Env.mk 83 [(0, AV.ptr 0 0)])
 (St.mk (Ob.cells [AV.sl 1 f l, AV.bool false] :: os) tk))
 (if
 (0 : Int) ≤ IntKind.i64.wrap (i + (1 : Int)) ∧
 IntKind.i64.wrap (i + (1 : Int)) ≤ (↑l.length : Int) then
 branch
 (AV.bool
 ((IntKind.u64.wrap
 (u +
 IntKind.u64.wrap
 (IntKind.u64.wrap (c.tmod (128 : Int)) *
 (2 : Int) ^
 min (IntKind.u64.wrap (IntKind.i64.wrap ((7 : Int) * i))).toNat 64))).tmod
 (2 : Int) ==
 (1 : Int)))
 (K AX.ret
 (Env.mk 83
 [(2,
 AV.int IntKind.i64
 (IntKind.i64.wrap
 (IntKind.i64.wrap
 ((0 : Int) -
 IntKind.i64.wrap
 (IntKind.u64.wrap
 ((IntKind.u64.wrap
 (u +
 IntKind.u64.wrap
 (IntKind.u64.wrap (c.tmod (128 : Int)) *
 (2 : Int) ^
 min (IntKind.u64.wrap (IntKind.i64.wrap ((7 : Int) * i))).toNat
 64))).tdiv
 (2 : Int)))) -
 (1 : Int))))])
 (St.mk
 (Ob.cells
 [AV.sl 1 (f && l.length.beq l.length)
 (List.drop (IntKind.i64.wrap (i + (1 : Int))).toNat (List.take l.length l)),
 AV.bool false] ::
 os)
 tk))
 (K AX.ret
 (Env.mk 83
 [(2,
 AV.int IntKind.i64
 (IntKind.i64.wrap
 (IntKind.u64.wrap
 ((IntKind.u64.wrap
 (u +
 IntKind.u64.wrap
 (IntKind.u64.wrap (c.tmod (128 : Int)) *
 (2 : Int) ^
 min (IntKind.u64.wrap (IntKind.i64.wrap ((7 : Int) * i))).toNat
 64))).tdiv
 (2 : Int)))))])
 (St.mk
 (Ob.cells
 [AV.sl 1 (f && l.length.beq l.length)
 (List.drop (IntKind.i64.wrap (i + (1 : Int))).toNat (List.take l.length l)),
 AV.bool false] ::
 os)
 tk))
 else none))
 (if
 (0 : Int) ≤ IntKind.i64.wrap (i + (1 : Int)) ∧
 IntKind.i64.wrap (i + (1 : Int)) ≤ (↑l.length : Int) then
 branch
 (AV.bool
 ((IntKind.u64.wrap
 (u +
 IntKind.u64.wrap
 (IntKind.u64.wrap (c.tmod (128 : Int)) *
 (2 : Int) ^
 min (IntKind.u64.wrap (IntKind.i64.wrap ((7 : Int) * i))).toNat 64))).tmod
 (2 : Int) ==
 (1 : Int)))
 (K AX.ret
 (Env.mk 83
 [(2,
 AV.int IntKind.i64
 (IntKind.i64.wrap
 (IntKind.i64.wrap
 ((0 : Int) -
 IntKind.i64.wrap
 (IntKind.u64.wrap
 ((IntKind.u64.wrap
 (u +
 IntKind.u64.wrap
 (IntKind.u64.wrap (c.tmod (128 : Int)) *
 (2 : Int) ^
 min (IntKind.u64.wrap (IntKind.i64.wrap ((7 : Int) * i))).toNat
 64))).tdiv
 (2 : Int)))) -
 (1 : Int))))])
 (St.mk
 (Ob.cells
 [AV.sl 1 (f && l.length.beq l.length)
 (List.drop (IntKind.i64.wrap (i + (1 : Int))).toNat (List.take l.length l)),
 AV.bool false] ::
 os)
 tk))
 (K AX.ret
 (Env.mk 83
 [(2,
 AV.int IntKind.i64
 (IntKind.i64.wrap
 (IntKind.u64.wrap
 ((IntKind.u64.wrap
 (u +
 IntKind.u64.wrap
 (IntKind.u64.wrap (c.tmod (128 : Int)) *
 (2 : Int) ^
 min (IntKind.u64.wrap (IntKind.i64.wrap ((7 : Int) * i))).toNat
 64))).tdiv
 (2 : Int)))))])
 (St.mk
 (Ob.cells
 [AV.sl 1 (f && l.length.beq l.length)
 (List.drop (IntKind.i64.wrap (i + (1 : Int))).toNat (List.take l.length l)),
 AV.bool false] ::
 os)
 tk))
 else none))
 (loopRun (f32_l0.run F) [0, 3, 4] K n
 (Env.mk 83
 [(0, AV.ptr 0 0),
 (3,
 AV.int IntKind.u64
 (IntKind.u64.wrap
 (u +
 IntKind.u64.wrap
 (IntKind.u64.wrap (c.tmod (128 : Int)) *
 (2 : Int) ^
 min (IntKind.u64.wrap (IntKind.i64.wrap ((7 : Int) * i))).toNat 64)))),
 (4, AV.int IntKind.i64 (IntKind.i64.wrap (i + (1 : Int))))])
 (St.mk (Ob.cells [AV.sl 1 f l, AV.bool false] :: os) tk))
 else none))
 (if (0 : Int) ≤ IntKind.u64.wrap (IntKind.i64.wrap ((7 : Int) * i)) then
 branch (AV.bool (decide (c < (128 : Int))))
 (branch (AV.bool (decide (i > (0 : Int))))
 (branch (AV.bool (IntKind.u64.wrap (c.tmod (128 : Int)) == (0 : Int)))
 (K (AX.exit 0) (Env.mk 83 [(0, AV.ptr 0 0)])
 (St.mk (Ob.cells [AV.sl 1 f l, AV.bool false] :: os) tk))
 (if
 (0 : Int) ≤ IntKind.i64.wrap (i + (1 : Int)) ∧
 IntKind.i64.wrap (i + (1 : Int)) ≤ (↑l.length : Int) then
 branch
 (AV.bool
 ((IntKind.u64.wrap
 (u +
 IntKind.u64.wrap
 (IntKind.u64.wrap (c.tmod (128 : Int)) *
 (2 : Int) ^
 min (IntKind.u64.wrap (IntKind.i64.wrap ((7 : Int) * i))).toNat 64))).tmod
 (2 : Int) ==
 (1 : Int)))
 (K AX.ret
 (Env.mk 83
 [(2,
 AV.int IntKind.i64
 (IntKind.i64.wrap
 (IntKind.i64.wrap
 ((0 : Int) -
 IntKind.i64.wrap
 (IntKind.u64.wrap
 ((IntKind.u64.wrap
 (u +
 IntKind.u64.wrap
 (IntKind.u64.wrap (c.tmod (128 : Int)) *
 (2 : Int) ^
 min (IntKind.u64.wrap (IntKind.i64.wrap ((7 : Int) * i))).toNat
 64))).tdiv
 (2 : Int)))) -
 (1 : Int))))])
 (St.mk
 (Ob.cells
 [AV.sl 1 (f && l.length.beq l.length)
 (List.drop (IntKind.i64.wrap (i + (1 : Int))).toNat (List.take l.length l)),
 AV.bool false] ::
 os)
 tk))
 (K AX.ret
 (Env.mk 83
 [(2,
 AV.int IntKind.i64
 (IntKind.i64.wrap
 (IntKind.u64.wrap
 ((IntKind.u64.wrap
 (u +
 IntKind.u64.wrap
 (IntKind.u64.wrap (c.tmod (128 : Int)) *
 (2 : Int) ^
 min (IntKind.u64.wrap (IntKind.i64.wrap ((7 : Int) * i))).toNat
 64))).tdiv
 (2 : Int)))))])
 (St.mk
 (Ob.cells
 [AV.sl 1 (f && l.length.beq l.length)
 (List.drop (IntKind.i64.wrap (i + (1 : Int))).toNat (List.take l.length l)),
 AV.bool false] ::
 os)
 tk))
 else none))
 (if (0 : Int) ≤ IntKind.i64.wrap (i + (1 : Int)) ∧ IntKind.i64.wrap (i + (1 : Int)) ≤ (↑l.length : Int) then
 branch
 (AV.bool
 ((IntKind.u64.wrap
 (u +
 IntKind.u64.wrap
 (IntKind.u64.wrap (c.tmod (128 : Int)) *
 (2 : Int) ^
 min (IntKind.u64.wrap (IntKind.i64.wrap ((7 : Int) * i))).toNat 64))).tmod
 (2 : Int) ==
 (1 : Int)))
 (K AX.ret
 (Env.mk 83
 [(2,
 AV.int IntKind.i64
 (IntKind.i64.wrap
 (IntKind.i64.wrap
 ((0 : Int) -
 IntKind.i64.wrap
 (IntKind.u64.wrap
 ((IntKind.u64.wrap
 (u +
 IntKind.u64.wrap
 (IntKind.u64.wrap (c.tmod (128 : Int)) *
 (2 : Int) ^
 min (IntKind.u64.wrap (IntKind.i64.wrap ((7 : Int) * i))).toNat
 64))).tdiv
 (2 : Int)))) -
 (1 : Int))))])
 (St.mk
 (Ob.cells
 [AV.sl 1 (f && l.length.beq l.length)
 (List.drop (IntKind.i64.wrap (i + (1 : Int))).toNat (List.take l.length l)),
 AV.bool false] ::
 os)
 tk))
 (K AX.ret
 (Env.mk 83
 [(2,
 AV.int IntKind.i64
 (IntKind.i64.wrap
 (IntKind.u64.wrap
 ((IntKind.u64.wrap
 (u +
 IntKind.u64.wrap
 (IntKind.u64.wrap (c.tmod (128 : Int)) *
 (2 : Int) ^
 min (IntKind.u64.wrap (IntKind.i64.wrap ((7 : Int) * i))).toNat
 64))).tdiv
 (2 : Int)))))])
 (St.mk
 (Ob.cells
 [AV.sl 1 (f && l.length.beq l.length)
 (List.drop (IntKind.i64.wrap (i + (1 : Int))).toNat (List.take l.length l)),
 AV.bool false] ::
 os)
 tk))
 else none))
 (loopRun (f32_l0.run F) [0, 3, 4] K n
 (Env.mk 83
 [(0, AV.ptr 0 0),
 (3,
 AV.int IntKind.u64
 (IntKind.u64.wrap
 (u +
 IntKind.u64.wrap
 (IntKind.u64.wrap (c.tmod (128 : Int)) *
 (2 : Int) ^ min (IntKind.u64.wrap (IntKind.i64.wrap ((7 : Int) * i))).toNat 64)))),
 (4, AV.int IntKind.i64 (IntKind.i64.wrap (i + (1 : Int))))])
 (St.mk (Ob.cells [AV.sl 1 f l, AV.bool false] :: os) tk))
 else none))
 (K (AX.exit 0) (Env.mk 83 [(0, AV.ptr 0 0)])
 (St.mk (Ob.cells [AV.sl 1 f l, AV.bool false] :: os) tk)))
 (K (AX.exit 0) (Env.mk 83 [(0, AV.ptr 0 0)])
 (St.mk (Ob.cells [AV.sl 1 f l, AV.bool false] :: os) tk)) := by
 rw [rr_round_raw F n K u i c f l os tk, h0]
 kernel_rfl

theorem rr_end_raw (F n : Nat) (K : Cont) (u i : Int) (f : Bool) (l : List (List AV)) (os : List Ob) (tk : List (Nat × Nat)) :
 (loopRun (f32_l0.run F) [0, 3, 4] K n.succ (Env.mk 83 [(0, .ptr 0 0), (3, .int .u64 u), (4, .int .i64 i)]) ⟨.cells [.sl 1 f l, .bool false] :: os, tk⟩ : Ans) =
 branch (AV.bool (decide (i < (↑l.length : Int))))
 (branch (AV.bool (decide (i < (10 : Int))))
 (onSome (elemAt l i) none fun (o : List AV) =>
 onCons o none fun (x : AV) (l_1 : List AV) =>
 onInt x fun (a : IntKind) (a_1 : Int) =>
 if a = IntKind.u8 then
 branch (AV.bool (i == (9 : Int)))
 (branch (AV.bool (decide (IntKind.u64.wrap (a_1.tmod (128 : Int)) > (1 : Int))))
 (K (AX.exit 0) (Env.mk 83 [(0, AV.ptr 0 0)])
 (St.mk (Ob.cells [AV.sl 1 f l, AV.bool false] :: os) tk))
 (if (0 : Int) ≤ IntKind.u64.wrap (IntKind.i64.wrap ((7 : Int) * i)) then
 onSome (elemAt l i) none fun (o : List AV) =>
 onCons o none fun (x : AV) (l_2 : List AV) =>
 onInt x fun (a : IntKind) (a_2 : Int) =>
 if a = IntKind.u8 then
 branch (AV.bool (decide (a_2 < (128 : Int))))
 (branch (AV.bool (decide (i > (0 : Int))))
 (branch (AV.bool (IntKind.u64.wrap (a_1.tmod (128 : Int)) == (0 : Int)))
 (K (AX.exit 0) (Env.mk 83 [(0, AV.ptr 0 0)])
 (St.mk (Ob.cells [AV.sl 1 f l, AV.bool false] :: os) tk))
 (if
 (0 : Int) ≤ IntKind.i64.wrap (i + (1 : Int)) ∧
 IntKind.i64.wrap (i + (1 : Int)) ≤ (↑l.length : Int) then
 branch
 (AV.bool
 ((IntKind.u64.wrap
 (u +
 IntKind.u64.wrap
 (IntKind.u64.wrap (a_1.tmod (128 : Int)) *
 (2 : Int) ^
 min (IntKind.u64.wrap (IntKind.i64.wrap ((7 : Int) * i))).toNat
 64))).tmod
 (2 : Int) ==
 (1 : Int)))
 (K AX.ret
 (Env.mk 83
 [(2,
 AV.int IntKind.i64
 (IntKind.i64.wrap
 (IntKind.i64.wrap
 ((0 : Int) -
 IntKind.i64.wrap
 (IntKind.u64.wrap
 ((IntKind.u64.wrap
 (u +
 IntKind.u64.wrap
 (IntKind.u64.wrap (a_1.tmod (128 : Int)) *
 (2 : Int) ^
 min
 (IntKind.u64.wrap
 (IntKind.i64.wrap ((7 : Int) * i))).toNat
 64))).tdiv
 (2 : Int)))) -
 (1 : Int))))])
 (St.mk
 (Ob.cells
 [AV.sl 1 (f && l.length.beq l.length)
 (List.drop (IntKind.i64.wrap (i + (1 : Int))).toNat
 (List.take l.length l)),
 AV.bool false] ::
 os)
 tk))
 (K AX.ret
 (Env.mk 83
 [(2,
 AV.int IntKind.i64
 (IntKind.i64.wrap
 (IntKind.u64.wrap
 ((IntKind.u64.wrap
 (u +
 IntKind.u64.wrap
 (IntKind.u64.wrap (a_1.tmod (128 : Int)) *
 (2 : Int) ^
 min
 (IntKind.u64.wrap
 (IntKind.i64.wrap ((7 : Int) * i))).toNat
 64))).tdiv
 (2 : Int)))))])
 (St.mk
 (Ob.cells
 [AV.sl 1 (f && l.length.beq l.length)
 (List.drop (IntKind.i64.wrap (i + (1 : Int))).toNat
 (List.take l.length l)),
 AV.bool false] ::
 os)
 tk))
 else none))
 (if
 (0 : Int) ≤ IntKind.i64.wrap (i + (1 : Int)) ∧
 IntKind.i64.wrap (i + (1 : Int)) ≤ (↑l.length : Int) then
 branch
 (AV.bool
 ((IntKind.u64.wrap
 (u +
 IntKind.u64.wrap
 (IntKind.u64.wrap (a_1.tmod (128 : Int)) *
 (2 : Int) ^
 min (IntKind.u64.wrap (IntKind.i64.wrap ((7 : Int) * i))).toNat
 64))).tmod
 (2 : Int) ==
 (1 : Int)))
 (K AX.ret
 (Env.mk 83
 [(2,
 AV.int IntKind.i64
 (IntKind.i64.wrap
 (IntKind.i64.wrap
 ((0 : Int) -
 IntKind.i64.wrap
 (IntKind.u64.wrap
 ((IntKind.u64.wrap
 (u +
 IntKind.u64.wrap
 (IntKind.u64.wrap (a_1.tmod (128 : Int)) *
 (2 : Int) ^
 min
 (IntKind.u64.wrap
 (IntKind.i64.wrap ((7 : Int) * i))).toNat
 64))).tdiv
 (2 : Int)))) -
 (1 : Int))))])
 (St.mk
 (Ob.cells
 [AV.sl 1 (f && l.length.beq l.length)
 (List.drop (IntKind.i64.wrap (i + (1 : Int))).toNat
 (List.take l.length l)),
 AV.bool false] ::
 os)
 tk))
 (K AX.ret
 (Env.mk 83
 [(2,
 AV.int IntKind.i64
 (IntKind.i64.wrap
 (IntKind.u64.wrap
 ((IntKind.u64.wrap
 (u +
 IntKind.u64.wrap
 (IntKind.u64.wrap (a_1.tmod (128 : Int)) *
 (2 : Int) ^
 min
 (IntKind.u64.wrap
 (IntKind.i64.wrap ((7 : Int) * i))).toNat
 64))).tdiv
 (2 : Int)))))])
 (St.mk
 (Ob.cells
 [AV.sl 1 (f && l.length.beq l.length)
 (List.drop (IntKind.i64.wrap (i + (1 : Int))).toNat
 (List.take l.length l)),
 AV.bool false] ::
 os)
 tk))
 else none))
 (loopRun (f32_l0.run F) [0, 3, 4] K n
 (Env.mk 83
 [(0, AV.ptr 0 0),
 (3,
 AV.int IntKind.u64
 (IntKind.u64.wrap
 (u +
 IntKind.u64.wrap
 (IntKind.u64.wrap (a_1.tmod (128 : Int)) *
 (2 : Int) ^
 min (IntKind.u64.wrap (IntKind.i64.wrap ((7 : Int) * i))).toNat
 64)))),
 (4, AV.int IntKind.i64 (IntKind.i64.wrap (i + (1 : Int))))])
 (St.mk (Ob.cells [AV.sl 1 f l, AV.bool false] :: os) tk))
 else none
 else none))
 (if (0 : Int) ≤ IntKind.u64.wrap (IntKind.i64.wrap ((7 : Int) * i)) then
 onSome (elemAt l i) none fun (o : List AV) =>
 onCons o none fun (x : AV) (l_2 : List AV) =>
 onInt x fun (a : IntKind) (a_2 : Int) =>
 if a = IntKind.u8 then
 branch (AV.bool (decide (a_2 < (128 : Int))))
 (branch (AV.bool (decide (i > (0 : Int))))
 (branch (AV.bool (IntKind.u64.wrap (a_1.tmod (128 : Int)) == (0 : Int)))
 (K (AX.exit 0) (Env.mk 83 [(0, AV.ptr 0 0)])
 (St.mk (Ob.cells [AV.sl 1 f l, AV.bool false] :: os) tk))
 (if
 (0 : Int) ≤ IntKind.i64.wrap (i + (1 : Int)) ∧
 IntKind.i64.wrap (i + (1 : Int)) ≤ (↑l.length : Int) then
 branch
 (AV.bool
 ((IntKind.u64.wrap
 (u +
 IntKind.u64.wrap
 (IntKind.u64.wrap (a_1.tmod (128 : Int)) *
 (2 : Int) ^
 min (IntKind.u64.wrap (IntKind.i64.wrap ((7 : Int) * i))).toNat
 64))).tmod
 (2 : Int) ==
 (1 : Int)))
 (K AX.ret
 (Env.mk 83
 [(2,
 AV.int IntKind.i64
 (IntKind.i64.wrap
 (IntKind.i64.wrap
 ((0 : Int) -
 IntKind.i64.wrap
 (IntKind.u64.wrap
 ((IntKind.u64.wrap
 (u +
 IntKind.u64.wrap
 (IntKind.u64.wrap (a_1.tmod (128 : Int)) *
 (2 : Int) ^
 min
 (IntKind.u64.wrap
 (IntKind.i64.wrap ((7 : Int) * i))).toNat
 64))).tdiv
 (2 : Int)))) -
 (1 : Int))))])
 (St.mk
 (Ob.cells
 [AV.sl 1 (f && l.length.beq l.length)
 (List.drop (IntKind.i64.wrap (i + (1 : Int))).toNat
 (List.take l.length l)),
 AV.bool false] ::
 os)
 tk))
 (K AX.ret
 (Env.mk 83
 [(2,
 AV.int IntKind.i64
 (IntKind.i64.wrap
 (IntKind.u64.wrap
 ((IntKind.u64.wrap
 (u +
 IntKind.u64.wrap
 (IntKind.u64.wrap (a_1.tmod (128 : Int)) *
 (2 : Int) ^
 min
 (IntKind.u64.wrap
 (IntKind.i64.wrap ((7 : Int) * i))).toNat
 64))).tdiv
 (2 : Int)))))])
 (St.mk
 (Ob.cells
 [AV.sl 1 (f && l.length.beq l.length)
 (List.drop (IntKind.i64.wrap (i + (1 : Int))).toNat
 (List.take l.length l)),
 AV.bool false] ::
 os)
 tk))
 else none))
 (if
 (0 : Int) ≤ IntKind.i64.wrap (i + (1 : Int)) ∧
 IntKind.i64.wrap (i + (1 : Int)) ≤ (↑l.length : Int) then
 branch
 (AV.bool
 ((IntKind.u64.wrap
 (u +
 IntKind.u64.wrap
 (IntKind.u64.wrap (a_1.tmod (128 : Int)) *
 (2 : Int) ^
 min (IntKind.u64.wrap (IntKind.i64.wrap ((7 : Int) * i))).toNat
 64))).tmod
 (2 : Int) ==
 (1 : Int)))
 (K AX.ret
 (Env.mk 83
 [(2,
 AV.int IntKind.i64
 (IntKind.i64.wrap
 (IntKind.i64.wrap
 ((0 : Int) -
 IntKind.i64.wrap
 (IntKind.u64.wrap
 ((IntKind.u64.wrap
 (u +
 IntKind.u64.wrap
 (IntKind.u64.wrap (a_1.tmod (128 : Int)) *
 (2 : Int) ^
 min
 (IntKind.u64.wrap
 (IntKind.i64.wrap ((7 : Int) * i))).toNat
 64))).tdiv
 (2 : Int)))) -
 (1 : Int))))])
 (St.mk
 (Ob.cells
 [AV.sl 1 (f && l.length.beq l.length)
 (List.drop (IntKind.i64.wrap (i + (1 : Int))).toNat (List.take l.length l)),
 AV.bool false] ::
 os)
 tk))
 (K AX.ret
 (Env.mk 83
 [(2,
 AV.int IntKind.i64
 (IntKind.i64.wrap
 (IntKind.u64.wrap
 ((IntKind.u64.wrap
 (u +
 IntKind.u64.wrap
 (IntKind.u64.wrap (a_1.tmod (128 : Int)) *
 (2 : Int) ^
 min
 (IntKind.u64.wrap
 (IntKind.i64.wrap ((7 : Int) * i))).toNat
 64))).tdiv
 (2 : Int)))))])
 (St.mk
 (Ob.cells
 [AV.sl 1 (f && l.length.beq l.length)
 (List.drop (IntKind.i64.wrap (i + (1 : Int))).toNat (List.take l.length l)),
 AV.bool false] ::
 os)
 tk))
 else none))
 (loopRun (f32_l0.run F) [0, 3, 4] K n
 (Env.mk 83
 [(0, AV.ptr 0 0),
 (3,
 AV.int IntKind.u64
 (IntKind.u64.wrap
 (u +
 IntKind.u64.wrap
 (IntKind.u64.wrap (a_1.tmod (128 : Int)) *
 (2 : Int) ^
 min (IntKind.u64.wrap (IntKind.i64.wrap ((7 : Int) * i))).toNat
 64)))),
 (4, AV.int IntKind.i64 (IntKind.i64.wrap (i + (1 : Int))))])
 (St.mk (Ob.cells [AV.sl 1 f l, AV.bool false] :: os) tk))
 else none
 else none)
 else none)
 (K (AX.exit 0) (Env.mk 83 [(0, AV.ptr 0 0)])
 (St.mk (Ob.cells [AV.sl 1 f l, AV.bool false] :: os) tk)))
 (K (AX.exit 0) (Env.mk 83 [(0, AV.ptr 0 0)])
 (St.mk (Ob.cells [AV.sl 1 f l, AV.bool false] :: os) tk)) := by kernel_rfl

theorem rr_end (F n : Nat) (K : Cont) (u i : Int) (f : Bool) (l : List (List AV)) (os : List Ob) (tk : List (Nat × Nat)) (h0 : decide (i < (l.length : Int)) = false) :
 (loopRun (f32_l0.run F) [0, 3, 4] K n.succ (Env.mk 83 [(0, .ptr 0 0), (3, .int .u64 u), (4, .int .i64 i)]) ⟨.cells [.sl 1 f l, .bool false] :: os, tk⟩ : Ans) =
 K (AX.exit 0) (Env.mk 83 [(0, AV.ptr 0 0)])
 (St.mk (Ob.cells [AV.sl 1 f l, AV.bool false] :: os) tk) := by
 rw [rr_end_raw F n K u i f l os tk, h0]
 kernel_rfl

theorem rr_out (F : Nat) (a : AV) (b : Bool) (os : List Ob) (tk : List (Nat × Nat)) :
 ((Cont.block 0 (Cont.then (f32_r0.run F (f32.leaveK Fun.done)) (f32.leaveK Fun.done))) (.exit 0) (Env.mk 83 [(0, .ptr 0 0)]) ⟨.cells [a, .bool b] :: os, tk⟩ : Ans) =
 some (Fin.ret (AV.int IntKind.i64 (0 : Int)), St.mk (Ob.cells [a, AV.bool true] :: os) tk) := by kernel_rfl

theorem rr_ret (F : Nat) (v : Int) (st : St) :
 ((Cont.block 0 (Cont.then (f32_r0.run F (f32.leaveK Fun.done)) (f32.leaveK Fun.done))) .ret (Env.mk 83 [(2, .int .i64 v)]) st : Ans) =
 some (Fin.ret (AV.int IntKind.i64 v), st) := by kernel_rfl

end Go.Proofs.YtcfedmheblbdnaaGreatDoor.K

/- Bits: the reference's reader: the next number. -/
set_option linter.unusedVariables false
namespace Go.Proofs.YtcfedmheblbdnaaGreatDoor.K
open Go Go.V Go.RowKit

theorem at_byte {l : List (List AV)} (h : okR l = true) {i : Nat} (hi : i < l.length) : ∃ c : Nat, elemAt l (i : Int) = some [.int .u8 (c : Int)] ∧ c < 256 ∧ (nR l).drop i = c :: (nR l).drop (i + 1) := by
  have hm := List.all_eq_true.mp h l[i] (List.getElem_mem hi)
  obtain ⟨h1, h2⟩ := isByte_row hm
  refine ⟨Go.V.byteOf l[i], ?_, h2, ?_⟩
  · rw [← h1]; unfold elemAt; simp [hi]
  · rw [List.drop_eq_getElem_cons (by rw [nR_length]; exact hi)]
    simp [nR]
theorem tmod128 {c : Nat} (h : c < 256) : IntKind.u64.wrap ((c : Int).tmod 128) = ((c % 128 : Nat) : Int) := by
  rw [show (c : Int).tmod 128 = ((c % 128 : Nat) : Int) by rw [show (128 : Int) = ((128 : Nat) : Int) from rfl]; exact (Int.ofNat_tmod c 128).symm]
  exact wrapU64 (by omega)
theorem piece {i u d : Nat} (hi : i ≤ 9) (hu : u < 2 ^ (7 * i)) (hd : d < 128) (h9 : ¬ (i = 9 ∧ d > 1)) :
    IntKind.u64.wrap ((u : Int) + IntKind.u64.wrap ((d : Int) * 2 ^ min (IntKind.u64.wrap (IntKind.i64.wrap (7 * (i : Int)))).toNat 64)) = ((u + d * 2 ^ (7 * i) : Nat) : Int) ∧ u + d * 2 ^ (7 * i) < 2 ^ 64 ∧ u + d * 2 ^ (7 * i) < 2 ^ (7 * (i + 1)) := by
  obtain ⟨_, h2, h3⟩ := dig_or hi hu hd h9
  refine ⟨?_, h2, h3⟩
  have e0 : IntKind.u64.wrap (IntKind.i64.wrap (7 * (i : Int))) = ((7 * i : Nat) : Int) := by rw [wrapS (by omega) (by omega), show (7 * (i : Int)) = ((7 * i : Nat) : Int) by omega]; exact wrapU64 (by omega)
  rw [e0, Int.toNat_natCast, Nat.min_eq_left (by omega), show (d : Int) * 2 ^ (7 * i) = ((d * 2 ^ (7 * i) : Nat) : Int) by rw [Int.natCast_mul, Int.natCast_pow]; rfl, wrapU64 (by omega),
    show (u : Int) + ((d * 2 ^ (7 * i) : Nat) : Int) = ((u + d * 2 ^ (7 * i) : Nat) : Int) by omega]
  exact wrapU64 (by omega)
theorem odd_unf {D : Nat} (h : D < 2 ^ 64) (ho : D % 2 = 1) : IntKind.i64.wrap (IntKind.i64.wrap (0 - IntKind.i64.wrap (IntKind.u64.wrap ((D : Int).tdiv 2))) - 1) = unfN D := by
  rw [show (D : Int).tdiv 2 = ((D / 2 : Nat) : Int) by rw [show (2 : Int) = ((2 : Nat) : Int) from rfl]; exact (Int.ofNat_tdiv D 2).symm]
  rw [wrapU64 (n := D / 2) (by omega), wrapS (n := ((D / 2 : Nat) : Int)) (by omega) (by omega), wrapS (n := 0 - ((D / 2 : Nat) : Int)) (by omega) (by omega), wrapS (by omega) (by omega)]
  unfold unfN
  rw [if_neg (by omega)]
  omega
theorem even_unf {D : Nat} (h : D < 2 ^ 64) (ho : D % 2 = 0) : IntKind.i64.wrap (IntKind.u64.wrap ((D : Int).tdiv 2)) = unfN D := by
  rw [show (D : Int).tdiv 2 = ((D / 2 : Nat) : Int) by rw [show (2 : Int) = ((2 : Nat) : Int) from rfl]; exact (Int.ofNat_tdiv D 2).symm]
  rw [wrapU64 (n := D / 2) (by omega), wrapS (n := ((D / 2 : Nat) : Int)) (by omega) (by omega)]
  unfold unfN
  rw [if_pos ho]
theorem odd_test (D : Nat) : (((D : Int).tmod 2) == 1) = decide (D % 2 = 1) := by
  rw [show (D : Int).tmod 2 = ((D % 2 : Nat) : Int) by rw [show (2 : Int) = ((2 : Nat) : Int) from rfl]; exact (Int.ofNat_tmod D 2).symm]
  by_cases h : D % 2 = 1
  · rw [h]; rfl
  · rw [show D % 2 = 0 by omega]; rfl

noncomputable def rrK (F : Nat) : Cont := Cont.block 0 (Cont.then (f32_r0.run F (f32.leaveK Fun.done)) (f32.leaveK Fun.done))
/-- What the reference's Int comes to. -/
def rrAns (f : Bool) (l : List (List AV)) (os : List Ob) (tk : List (Nat × Nat)) (x : Nat × Nat) : Ans :=
  if x.2 = 0 then some (.ret (.int .i64 0), ⟨.cells [.sl 1 f l, .bool true] :: os, tk⟩)
  else some (.ret (.int .i64 (unfN x.1)), ⟨.cells [.sl 1 f (l.drop x.2), .bool false] :: os, tk⟩)
theorem rr_loop (F : Nat) (f : Bool) (l : List (List AV)) (hl : okR l = true) (hs : l.length < 140737488355328) (os : List Ob) (tk : List (Nat × Nat)) : ∀ (k i u n : Nat), i + k = min 10 l.length → k < n → u < 2 ^ (7 * i) →
    loopRun (f32_l0.run F) [0, 3, 4] (rrK F) n (Env.mk 83 [(0, .ptr 0 0), (3, .int .u64 u), (4, .int .i64 i)]) ⟨.cells [.sl 1 f l, .bool false] :: os, tk⟩ = rrAns f l os tk (digN i u (((nR l).take 10).drop i))
  | k, i, u, 0, hi, hk, hu => by omega
  | 0, i, u, n + 1, hi, hk, hu => by
    have e : ((nR l).take 10).drop i = [] := List.drop_eq_nil_of_le (by simp [nR_length]; omega)
    rw [e]
    have hout : ∀ x, rrK F (.exit 0) (Env.mk 83 [(0, .ptr 0 0)]) ⟨.cells [.sl 1 f l, x] :: os, tk⟩ = rrK F (.exit 0) (Env.mk 83 [(0, .ptr 0 0)]) ⟨.cells [.sl 1 f l, x] :: os, tk⟩ := fun _ => rfl
    by_cases h : i < l.length
    · obtain ⟨c, he, hc, _⟩ := at_byte hl h
      rw [show n + 1 = n.succ from rfl, rr_round F n _ u i c f l os tk he, branch_of (decide_eq_true (by omega)), branch_not (decide_eq_false (by omega)), rrK, rr_out]
      rfl
    · rw [show n + 1 = n.succ from rfl, rr_end _ _ _ _ _ _ _ _ _ (decide_eq_false (by omega)), rrK, rr_out]
      rfl
  | k + 1, i, u, n + 1, hi, hk, hu => by
    have hi1 : i < l.length := by omega
    obtain ⟨c, he, hc, hdrop⟩ := at_byte hl hi1
    have hdr : ((nR l).take 10).drop i = c :: ((nR l).take 10).drop (i + 1) := by
      rw [List.drop_take, hdrop, show 10 - i = (9 - i) + 1 by omega, List.take_succ_cons, List.drop_take, show 10 - (i + 1) = 9 - i by omega]
    rw [hdr, digN, show n + 1 = n.succ from rfl, rr_round F n _ u i c f l os tk he, branch_of (decide_eq_true (by omega)), branch_of (decide_eq_true (by omega)), tmod128 hc]
    by_cases hx : i = 9 ∧ c % 128 > 1
    · rw [branch_of (by simp; omega), branch_of (decide_eq_true (by omega)), if_pos hx, rrK, rr_out]
      rfl
    · obtain ⟨p901, p902, p903⟩ := piece (by omega) hu (by omega) hx
      have hw : IntKind.i64.wrap ((i : Int) + 1) = ((i + 1 : Nat) : Int) := by rw [wrapS (by omega) (by omega)]; omega
      have h7 : 0 ≤ IntKind.u64.wrap (IntKind.i64.wrap (7 * (i : Int))) := by rw [wrapS (by omega) (by omega), show (7 * (i : Int)) = ((7 * i : Nat) : Int) by omega, wrapU64 (by omega)]; omega
      rw [p901, hw, if_neg hx, if_pos h7, odd_test]
      have ih := rr_loop F f l hl hs os tk k (i + 1) (u + c % 128 * 2 ^ (7 * i)) n (by omega) (by omega) p903
      have hret : ∀ v, rrK F .ret (Env.mk 83 [(2, .int .i64 v)]) ⟨.cells [.sl 1 (f && l.length.beq l.length) (List.drop ((i + 1 : Nat) : Int).toNat (List.take l.length l)), .bool false] :: os, tk⟩ = some (.ret (.int .i64 v), ⟨.cells [.sl 1 f (l.drop (i + 1)), .bool false] :: os, tk⟩) := by
        intro v; rw [rrK, rr_ret]; simp
      by_cases h9 : i = 9
      · rw [branch_of (by simp; omega), branch_not (decide_eq_false (by omega))]
        by_cases h128 : c < 128
        · rw [branch_of (decide_eq_true (by omega)), if_pos h128, branch_of (decide_eq_true (by omega))]
          by_cases hz : c % 128 = 0
          · rw [branch_of (by simp; omega), if_pos ⟨hz, by omega⟩, rrK, rr_out]; rfl
          · rw [branch_not (by simp; omega), if_neg (show ¬ (c % 128 = 0 ∧ i > 0) by omega), if_pos (show (0 : Int) ≤ ((i + 1 : Nat) : Int) ∧ ((i + 1 : Nat) : Int) ≤ (l.length : Int) by omega)]
            by_cases ho : (u + c % 128 * 2 ^ (7 * i)) % 2 = 1
            · rw [branch_of (decide_eq_true ho), hret, odd_unf p902 ho]; rfl
            · rw [branch_not (decide_eq_false ho), hret, even_unf p902 (by omega)]; rfl
        · rw [branch_not (decide_eq_false (by omega)), if_neg h128, ih]
      · rw [branch_not (by simp; omega)]
        by_cases h128 : c < 128
        · rw [branch_of (decide_eq_true (by omega)), if_pos h128]
          by_cases hi0 : 0 < i
          · rw [branch_of (decide_eq_true (by omega))]
            by_cases hz : c % 128 = 0
            · rw [branch_of (by simp; omega), if_pos ⟨hz, by omega⟩, rrK, rr_out]; rfl
            · rw [branch_not (by simp; omega), if_neg (show ¬ (c % 128 = 0 ∧ i > 0) by omega), if_pos (show (0 : Int) ≤ ((i + 1 : Nat) : Int) ∧ ((i + 1 : Nat) : Int) ≤ (l.length : Int) by omega)]
              by_cases ho : (u + c % 128 * 2 ^ (7 * i)) % 2 = 1
              · rw [branch_of (decide_eq_true ho), hret, odd_unf p902 ho]; rfl
              · rw [branch_not (decide_eq_false ho), hret, even_unf p902 (by omega)]; rfl
          · rw [branch_not (decide_eq_false (by omega)), if_neg (show ¬ (c % 128 = 0 ∧ i > 0) by omega), if_pos (show (0 : Int) ≤ ((i + 1 : Nat) : Int) ∧ ((i + 1 : Nat) : Int) ≤ (l.length : Int) by omega)]
            by_cases ho : (u + c % 128 * 2 ^ (7 * i)) % 2 = 1
            · rw [branch_of (decide_eq_true ho), hret, odd_unf p902 ho]; rfl
            · rw [branch_not (decide_eq_false ho), hret, even_unf p902 (by omega)]; rfl
        · rw [branch_not (decide_eq_false (by omega)), if_neg h128, ih]

theorem rdAt1 {st : St} {r : Rd} {put : AV → Bool → St} (h : rdAt (.ptr 0 0) st = some (r, put)) : ∃ os, st = ⟨.cells r.cells :: os, st.tk⟩ ∧ put = fun a b => ⟨.cells [a, .bool b] :: os, st.tk⟩ := by
  rcases rdAt_eq h with ⟨_, h⟩ | ⟨h3, _⟩
  · exact h
  · cases h3
theorem f32_spec {st : St} {f : Bool} {l : List (List AV)} {put : AV → Bool → St} (h : rdAt (.ptr 0 0) st = some (.sl f false l, put)) (hf : fit (.sl f l) = true) :
    f32.run 11 [.ptr 0 0] st = match getN (nR l) with
      | none => some (.ret (.int .i64 0), put (.sl 1 f l) true)
      | some o => some (.ret (.int .i64 o.1), put (.sl 1 f (l.drop o.2)) false) := by
  obtain ⟨h1, h2⟩ := fit_spec hf
  obtain ⟨os, hs, rfl⟩ := rdAt1 h
  rw [hs]; simp only [Rd.cells]
  have := rr_loop 11 f l h1 h2 os st.tk (min 10 l.length) 0 0 11 (by omega) (by omega) (by decide)
  rw [rr_run, show (0 : Int) = ((0 : Nat) : Int) from rfl]
  rw [rrK] at this
  rw [this, List.drop_zero, rrAns, getN]
  by_cases h0 : (digN 0 0 ((nR l).take 10)).2 = 0
  · rw [if_pos h0, if_pos h0]; rfl
  · rw [if_neg h0, if_neg h0]
theorem f32_bad {st : St} {f : Bool} {l : List (List AV)} {put : AV → Bool → St} (h : rdAt (.ptr 0 0) st = some (.sl f true l, put)) : f32.run 0 [.ptr 0 0] st = some (.ret (.int .i64 0), put (.sl 1 f l) true) := by
  obtain ⟨os, hs, rfl⟩ := rdAt1 h
  rw [hs]; simp only [Rd.cells]
  rw [rr_bad]
/-- The reference's Reader.Int. -/
noncomputable def q32 : OrcS Tryz.prog := f32.cps
  (fun args st k => match args with
    | [.ptr 0 0] => match rdAt (.ptr 0 0) st with
      | some (.sl f true l, put) => k (.ret (.int .i64 0)) (put (.sl 1 f l) true)
      | some (.sl f false l, put) => match fit (.sl f l) with
        | true => match getN (nR l) with
          | none => k (.ret (.int .i64 0)) (put (.sl 1 f l) true)
          | some o => k (.ret (.int .i64 o.1)) (put (.sl 1 f (l.drop o.2)) false)
        | false => none
      | _ => none
    | _ => none)
  fun args st k fin h => by
    split at h
    · split at h
      · rename_i h1; exact ⟨_, _, h, 0, f32_bad h1⟩
      · rename_i h1
        split at h
        · rename_i h2
          have := f32_spec h1 h2
          split at h
          · rename_i h3; rw [h3] at this; exact ⟨_, _, h, 11, this⟩
          · rename_i h3; rw [h3] at this; exact ⟨_, _, h, 11, this⟩
        · cases h
      · cases h
    · cases h
end Go.Proofs.YtcfedmheblbdnaaGreatDoor.K

/- The functions' pieces, as told by gen.py. -/
set_option linter.unusedVariables false
set_option maxRecDepth 20000
namespace Go.Proofs.YtcfedmheblbdnaaGreatDoor.K
open Go Go.V Go.RowKit


/-! ### 33: (*interlock/interlockref01.Reader).Text (51); results 2; slots: 0 r, 1 r, 3 n, 4 s -/
noncomputable def f33_b : Sim Tryz.prog :=
 (.seq (.live [0] (.region 0 [
 ⟨(opAssign (some 2) (.const (Value.string { data := #[] })) 9 "ref.go:76" #[]).op, none⟩
 ] (by kernel_rfl)))
 (.seq (.live [0, 3] (.region 1 [
 ⟨(opMove (some 5) (.tmp 0) 51 "ref.go:77" #[]).op, none⟩,
 ⟨opCall (q32).orc (some 6) [(.tmp 5)] #[51] 3 "ref.go:77" #[{ on := 0, ground := Ground.data }], none⟩,
 ⟨(opAssign (some 3) (.tmp 6) 3 "ref.go:77" #[{ on := 1, ground := Ground.data }, { on := 1, ground := Ground.chain }, { on := 0, ground := Ground.phase }, { on := 1, ground := Ground.phase }]).op, none⟩
 ] (by kernel_rfl)))
 (.seq (.seq (.live [0, 3, 23] (.region 2 [
 ⟨(opMove (some 7) (.tmp 0) 51 "ref.go:78" #[]).op, none⟩,
 ⟨(opNilCheck (some 8) (.tmp 7) 0 "ref.go:78" #[{ on := 0, ground := Ground.data }]).op, none⟩,
 ⟨(opFieldAddr (some 9) 54 (.tmp 8) 1 1 1 false fl54_1 (by decide) 0 "ref.go:78" #[{ on := 1, ground := Ground.data }]).op, none⟩,
 ⟨(opLoad (some 10) 4 (.tmp 9) .bool Tryz.underlying4 1 sz4 4 "ref.go:78" #[{ on := 2, ground := Ground.data }]).op, none⟩,
 ⟨(opMove (some 11) (.tmp 10) 4 "ref.go:78" #[{ on := 3, ground := Ground.data }]).op, none⟩,
 ⟨(opMove (some 12) (.tmp 3) 3 "ref.go:78" #[{ on := 4, ground := Ground.guard }]).op, (some (4, 11, false))⟩,
 ⟨(opBin (some 13) .lss 3 (.tmp 12) (.const (Value.int IntKind.i64 0)) 3 4 "ref.go:78" #[{ on := 5, ground := Ground.data }, { on := 4, ground := Ground.guard }]).op, (some (4, 11, false))⟩,
 ⟨(opPick (some 14) (.tmp 11) (.const (Value.bool true)) (.tmp 13) 4 "ref.go:78" #[{ on := 4, ground := Ground.data }, { on := 6, ground := Ground.data }]).op, none⟩,
 ⟨(opMove (some 15) (.tmp 14) 4 "ref.go:78" #[{ on := 7, ground := Ground.data }, { on := 4, ground := Ground.chain }]).op, none⟩,
 ⟨(opMove (some 16) (.tmp 3) 3 "ref.go:78" #[{ on := 8, ground := Ground.guard }]).op, (some (8, 15, false))⟩,
 ⟨(opMove (some 17) (.tmp 0) 51 "ref.go:78" #[{ on := 8, ground := Ground.guard }]).op, (some (8, 15, false))⟩,
 ⟨(opNilCheck (some 18) (.tmp 17) 0 "ref.go:78" #[{ on := 10, ground := Ground.data }, { on := 8, ground := Ground.guard }]).op, (some (8, 15, false))⟩,
 ⟨(opFieldAddr (some 19) 54 (.tmp 18) 0 0 1 false fl54_0 (by decide) 0 "ref.go:78" #[{ on := 11, ground := Ground.data }, { on := 8, ground := Ground.guard }]).op, (some (8, 15, false))⟩,
 ⟨(opLoad (some 20) 25 (.tmp 19) (.slice 5) Tryz.underlying25 1 sz25 25 "ref.go:78" #[{ on := 12, ground := Ground.data }, { on := 8, ground := Ground.guard }]).op, (some (8, 15, false))⟩,
 ⟨(opLen (some 21) (.tmp 20) 25 (.slice 5) Tryz.underlying25 3 "ref.go:78" #[{ on := 13, ground := Ground.data }, { on := 8, ground := Ground.guard }]).op, (some (8, 15, false))⟩,
 ⟨(opBin (some 22) .gtr 3 (.tmp 16) (.tmp 21) 3 4 "ref.go:78" #[{ on := 9, ground := Ground.data }, { on := 14, ground := Ground.data }, { on := 8, ground := Ground.guard }]).op, (some (8, 15, false))⟩,
 ⟨(opPick (some 23) (.tmp 15) (.const (Value.bool true)) (.tmp 22) 4 "ref.go:78" #[{ on := 8, ground := Ground.data }, { on := 15, ground := Ground.data }]).op, none⟩
 ] (by kernel_rfl)))
 (.cond (.tmp 23)
 (.seq (.live [] (.region 3 [
 ⟨(opMove (some 24) (.tmp 0) 51 "ref.go:79" #[]).op, none⟩,
 ⟨(opNilCheck (some 25) (.tmp 24) 0 "ref.go:79" #[{ on := 0, ground := Ground.data }, { on := 0, ground := Ground.phase }]).op, none⟩,
 ⟨(opFieldAddr (some 26) 54 (.tmp 25) 1 1 1 false fl54_1 (by decide) 0 "ref.go:79" #[{ on := 1, ground := Ground.data }, { on := 0, ground := Ground.phase }]).op, none⟩,
 ⟨(opStore none 4 (.tmp 26) (.const (Value.bool true)) 1 sz4 0 "ref.go:79" #[{ on := 2, ground := Ground.data }, { on := 0, ground := Ground.phase }]).op, none⟩
 ] (by kernel_rfl)))
 (.seq (.live [2] (.region 4 [
 ⟨(opAssign (some 2) (.const (Value.string { data := #[] })) 9 "ref.go:80" #[]).op, none⟩
 ] (by kernel_rfl)))
 (.live [2] .ret)))
 .skip))
 (.seq (.live [0, 3, 4] (.region 5 [
 ⟨(opMove (some 27) (.tmp 0) 51 "ref.go:82" #[]).op, none⟩,
 ⟨(opNilCheck (some 28) (.tmp 27) 0 "ref.go:82" #[{ on := 0, ground := Ground.data }]).op, none⟩,
 ⟨(opFieldAddr (some 29) 54 (.tmp 28) 0 0 1 false fl54_0 (by decide) 0 "ref.go:82" #[{ on := 1, ground := Ground.data }]).op, none⟩,
 ⟨(opLoad (some 30) 25 (.tmp 29) (.slice 5) Tryz.underlying25 1 sz25 25 "ref.go:82" #[{ on := 2, ground := Ground.data }]).op, none⟩,
 ⟨(opMove (some 31) (.tmp 3) 3 "ref.go:82" #[]).op, none⟩,
 ⟨(opSlice (some 32) 25 (.tmp 30) none (some (.tmp 31)) none 5 1 Tryz.underlying25 sz5 25 "ref.go:82" #[{ on := 3, ground := Ground.data }, { on := 4, ground := Ground.data }]).op, none⟩,
 ⟨(opBytesStr (some 33) 25 9 (.tmp 32) 5 Tryz.underlying25 Tryz.underlying5 Tryz.underlying9 9 "ref.go:82" #[{ on := 5, ground := Ground.data }]).op, none⟩,
 ⟨(opAssign (some 4) (.tmp 33) 9 "ref.go:82" #[{ on := 6, ground := Ground.data }, { on := 0, ground := Ground.phase }, { on := 1, ground := Ground.phase }, { on := 2, ground := Ground.phase }, { on := 3, ground := Ground.phase }, { on := 4, ground := Ground.phase }, { on := 5, ground := Ground.phase }, { on := 6, ground := Ground.phase }]).op, none⟩
 ] (by kernel_rfl)))
 (.seq (.live [4] (.region 6 [
 ⟨(opMove (some 34) (.tmp 0) 51 "ref.go:83" #[]).op, none⟩,
 ⟨(opMove (some 35) (.tmp 0) 51 "ref.go:83" #[]).op, none⟩,
 ⟨(opNilCheck (some 36) (.tmp 35) 0 "ref.go:83" #[{ on := 1, ground := Ground.data }]).op, none⟩,
 ⟨(opFieldAddr (some 37) 54 (.tmp 36) 0 0 1 false fl54_0 (by decide) 0 "ref.go:83" #[{ on := 2, ground := Ground.data }]).op, none⟩,
 ⟨(opLoad (some 38) 25 (.tmp 37) (.slice 5) Tryz.underlying25 1 sz25 25 "ref.go:83" #[{ on := 3, ground := Ground.data }]).op, none⟩,
 ⟨(opMove (some 39) (.tmp 3) 3 "ref.go:83" #[]).op, none⟩,
 ⟨(opSlice (some 40) 25 (.tmp 38) (some (.tmp 39)) none none 5 1 Tryz.underlying25 sz5 25 "ref.go:83" #[{ on := 4, ground := Ground.data }, { on := 5, ground := Ground.data }]).op, none⟩,
 ⟨(opNilCheck (some 41) (.tmp 34) 0 "ref.go:83" #[{ on := 0, ground := Ground.data }, { on := 0, ground := Ground.phase }, { on := 1, ground := Ground.phase }, { on := 2, ground := Ground.phase }, { on := 3, ground := Ground.phase }, { on := 4, ground := Ground.phase }, { on := 5, ground := Ground.phase }, { on := 6, ground := Ground.phase }]).op, none⟩,
 ⟨(opFieldAddr (some 42) 54 (.tmp 41) 0 0 1 false fl54_0 (by decide) 0 "ref.go:83" #[{ on := 7, ground := Ground.data }, { on := 0, ground := Ground.phase }, { on := 1, ground := Ground.phase }, { on := 2, ground := Ground.phase }, { on := 3, ground := Ground.phase }, { on := 4, ground := Ground.phase }, { on := 5, ground := Ground.phase }, { on := 6, ground := Ground.phase }]).op, none⟩,
 ⟨(opStore none 25 (.tmp 42) (.tmp 40) 1 sz25 0 "ref.go:83" #[{ on := 8, ground := Ground.data }, { on := 6, ground := Ground.data }, { on := 0, ground := Ground.phase }, { on := 1, ground := Ground.phase }, { on := 2, ground := Ground.phase }, { on := 3, ground := Ground.phase }, { on := 4, ground := Ground.phase }, { on := 5, ground := Ground.phase }, { on := 6, ground := Ground.phase }]).op, none⟩
 ] (by kernel_rfl)))
 (.seq (.live [2] (.region 7 [
 ⟨(opMove (some 43) (.tmp 4) 9 "ref.go:84" #[]).op, none⟩,
 ⟨(opAssign (some 2) (.tmp 43) 9 "ref.go:84" #[{ on := 0, ground := Ground.data }, { on := 0, ground := Ground.phase }]).op, none⟩
 ] (by kernel_rfl)))
 (.live [2] .ret)))))))

noncomputable def f33 : Fun Tryz.prog where
 id := 33
 fn := Tryz.f33
 hf := Tryz.func33
 hname := by kernel_rfl
 body := f33_b
 hbody := by kernel_rfl
 res := [rTmp 2]
 hres := by kernel_rfl
 n := 44
 hn := by kernel_rfl

/-! ### 31: (*interlock/interlockref01.Reader).Count (51, 3); results 4; slots: 0 r, 1 most, 2 r, 3 most, 5 n -/
noncomputable def f31_b : Sim Tryz.prog :=
 (.seq (.live [0, 1] (.region 0 [
 ⟨(opAssign (some 4) (.const (Value.int IntKind.i64 0)) 3 "ref.go:66" #[]).op, none⟩
 ] (by kernel_rfl)))
 (.seq (.live [0, 1, 5] (.region 1 [
 ⟨(opMove (some 6) (.tmp 0) 51 "ref.go:67" #[]).op, none⟩,
 ⟨opCall (q32).orc (some 7) [(.tmp 6)] #[51] 3 "ref.go:67" #[{ on := 0, ground := Ground.data }], none⟩,
 ⟨(opAssign (some 5) (.tmp 7) 3 "ref.go:67" #[{ on := 1, ground := Ground.data }, { on := 1, ground := Ground.chain }, { on := 0, ground := Ground.phase }, { on := 1, ground := Ground.phase }]).op, none⟩
 ] (by kernel_rfl)))
 (.seq (.seq (.live [0, 5, 20] (.region 2 [
 ⟨(opMove (some 8) (.tmp 0) 51 "ref.go:68" #[]).op, none⟩,
 ⟨(opNilCheck (some 9) (.tmp 8) 0 "ref.go:68" #[{ on := 0, ground := Ground.data }]).op, none⟩,
 ⟨(opFieldAddr (some 10) 54 (.tmp 9) 1 1 1 false fl54_1 (by decide) 0 "ref.go:68" #[{ on := 1, ground := Ground.data }]).op, none⟩,
 ⟨(opLoad (some 11) 4 (.tmp 10) .bool Tryz.underlying4 1 sz4 4 "ref.go:68" #[{ on := 2, ground := Ground.data }]).op, none⟩,
 ⟨(opMove (some 12) (.tmp 11) 4 "ref.go:68" #[{ on := 3, ground := Ground.data }]).op, none⟩,
 ⟨(opMove (some 13) (.tmp 5) 3 "ref.go:68" #[{ on := 4, ground := Ground.guard }]).op, (some (4, 12, false))⟩,
 ⟨(opBin (some 14) .lss 3 (.tmp 13) (.const (Value.int IntKind.i64 0)) 3 4 "ref.go:68" #[{ on := 5, ground := Ground.data }, { on := 4, ground := Ground.guard }]).op, (some (4, 12, false))⟩,
 ⟨(opPick (some 15) (.tmp 12) (.const (Value.bool true)) (.tmp 14) 4 "ref.go:68" #[{ on := 4, ground := Ground.data }, { on := 6, ground := Ground.data }]).op, none⟩,
 ⟨(opMove (some 16) (.tmp 15) 4 "ref.go:68" #[{ on := 7, ground := Ground.data }, { on := 4, ground := Ground.chain }]).op, none⟩,
 ⟨(opMove (some 17) (.tmp 5) 3 "ref.go:68" #[{ on := 8, ground := Ground.guard }]).op, (some (8, 16, false))⟩,
 ⟨(opMove (some 18) (.tmp 1) 3 "ref.go:68" #[{ on := 8, ground := Ground.guard }]).op, (some (8, 16, false))⟩,
 ⟨(opBin (some 19) .gtr 3 (.tmp 17) (.tmp 18) 3 4 "ref.go:68" #[{ on := 9, ground := Ground.data }, { on := 10, ground := Ground.data }, { on := 8, ground := Ground.guard }]).op, (some (8, 16, false))⟩,
 ⟨(opPick (some 20) (.tmp 16) (.const (Value.bool true)) (.tmp 19) 4 "ref.go:68" #[{ on := 8, ground := Ground.data }, { on := 11, ground := Ground.data }]).op, none⟩
 ] (by kernel_rfl)))
 (.cond (.tmp 20)
 (.seq (.live [] (.region 3 [
 ⟨(opMove (some 21) (.tmp 0) 51 "ref.go:69" #[]).op, none⟩,
 ⟨(opNilCheck (some 22) (.tmp 21) 0 "ref.go:69" #[{ on := 0, ground := Ground.data }, { on := 0, ground := Ground.phase }]).op, none⟩,
 ⟨(opFieldAddr (some 23) 54 (.tmp 22) 1 1 1 false fl54_1 (by decide) 0 "ref.go:69" #[{ on := 1, ground := Ground.data }, { on := 0, ground := Ground.phase }]).op, none⟩,
 ⟨(opStore none 4 (.tmp 23) (.const (Value.bool true)) 1 sz4 0 "ref.go:69" #[{ on := 2, ground := Ground.data }, { on := 0, ground := Ground.phase }]).op, none⟩
 ] (by kernel_rfl)))
 (.seq (.live [4] (.region 4 [
 ⟨(opAssign (some 4) (.const (Value.int IntKind.i64 0)) 3 "ref.go:70" #[]).op, none⟩
 ] (by kernel_rfl)))
 (.live [4] .ret)))
 .skip))
 (.seq (.live [4] (.region 5 [
 ⟨(opMove (some 24) (.tmp 5) 3 "ref.go:72" #[]).op, none⟩,
 ⟨(opAssign (some 4) (.tmp 24) 3 "ref.go:72" #[{ on := 0, ground := Ground.data }, { on := 0, ground := Ground.phase }]).op, none⟩
 ] (by kernel_rfl)))
 (.live [4] .ret)))))

noncomputable def f31 : Fun Tryz.prog where
 id := 31
 fn := Tryz.f31
 hf := Tryz.func31
 hname := by kernel_rfl
 body := f31_b
 hbody := by kernel_rfl
 res := [rTmp 4]
 hres := by kernel_rfl
 n := 25
 hn := by kernel_rfl

end Go.Proofs.YtcfedmheblbdnaaGreatDoor.K

/- What the functions' runs come to; the right sides were printed by a tool, Lean checks them. -/
set_option linter.unusedVariables false
set_option maxRecDepth 100000
namespace Go.Proofs.YtcfedmheblbdnaaGreatDoor.K
open Go Go.V Go.RowKit

theorem rtx_run (f : Bool) (l : List (List AV)) (os : List Ob) (tk : List (Nat × Nat)) :
 (f33.run 0 [.ptr 0 0] ⟨.cells [.sl 1 f l, .bool false] :: os, tk⟩ : Ans) =
 branch (AV.bool (fit (Br.sl f l)))
 (onSome (getN (nR l))
 (some (Fin.ret (AV.str (ByteArray.mk #[])), St.mk (Ob.cells [AV.sl 1 f l, AV.bool true] :: os) tk))
 fun (o : Int × Nat) =>
 branch (AV.bool (decide (o.fst < (0 : Int))))
 (some
 (Fin.ret (AV.str (ByteArray.mk #[])),
 St.mk (Ob.cells [AV.sl 1 f (List.drop o.snd l), AV.bool true] :: os) tk))
 (branch (AV.bool (decide (o.fst > (↑(List.drop o.snd l).length : Int))))
 (some
 (Fin.ret (AV.str (ByteArray.mk #[])),
 St.mk (Ob.cells [AV.sl 1 f (List.drop o.snd l), AV.bool true] :: os) tk))
 (if (0 : Int) ≤ o.fst ∧ o.fst ≤ (↑(List.drop o.snd l).length : Int) then
 onSome (numsOf (List.drop 0 (List.take o.fst.toNat (List.drop o.snd l)))) none fun (o_1 : List Int) =>
 if (0 : Int) ≤ o.fst ∧ o.fst ≤ (↑(List.drop o.snd l).length : Int) then
 some
 (Fin.ret (AV.str (textOf o_1)),
 St.mk
 (Ob.cells
 [AV.sl 1 (f && (List.drop o.snd l).length.beq (List.drop o.snd l).length)
 (List.drop o.fst.toNat (List.take (List.drop o.snd l).length (List.drop o.snd l))),
 AV.bool false] ::
 os)
 tk)
 else none
 else none)))
 none := by kernel_rfl

theorem rtx_bad (f : Bool) (l : List (List AV)) (os : List Ob) (tk : List (Nat × Nat)) :
 (f33.run 0 [.ptr 0 0] ⟨.cells [.sl 1 f l, .bool true] :: os, tk⟩ : Ans) =
 some (Fin.ret (AV.str (ByteArray.mk #[])), St.mk (Ob.cells [AV.sl 1 f l, AV.bool true] :: os) tk) := by kernel_rfl

theorem rct_run (f : Bool) (n : Int) (l : List (List AV)) (os : List Ob) (tk : List (Nat × Nat)) :
 (f31.run 0 [.ptr 0 0, .int .i64 n] ⟨.cells [.sl 1 f l, .bool false] :: os, tk⟩ : Ans) =
 branch (AV.bool (fit (Br.sl f l)))
 (onSome (getN (nR l))
 (some (Fin.ret (AV.int IntKind.i64 (0 : Int)), St.mk (Ob.cells [AV.sl 1 f l, AV.bool true] :: os) tk))
 fun (o : Int × Nat) =>
 branch (AV.bool (decide (o.fst < (0 : Int))))
 (some
 (Fin.ret (AV.int IntKind.i64 (0 : Int)),
 St.mk (Ob.cells [AV.sl 1 f (List.drop o.snd l), AV.bool true] :: os) tk))
 (branch (AV.bool (decide (o.fst > n)))
 (some
 (Fin.ret (AV.int IntKind.i64 (0 : Int)),
 St.mk (Ob.cells [AV.sl 1 f (List.drop o.snd l), AV.bool true] :: os) tk))
 (some
 (Fin.ret (AV.int IntKind.i64 o.fst),
 St.mk (Ob.cells [AV.sl 1 f (List.drop o.snd l), AV.bool false] :: os) tk))))
 none := by kernel_rfl

theorem rct_bad (f : Bool) (n : Int) (l : List (List AV)) (os : List Ob) (tk : List (Nat × Nat)) :
 (f31.run 0 [.ptr 0 0, .int .i64 n] ⟨.cells [.sl 1 f l, .bool true] :: os, tk⟩ : Ans) =
 some (Fin.ret (AV.int IntKind.i64 (0 : Int)), St.mk (Ob.cells [AV.sl 1 f l, AV.bool true] :: os) tk) := by kernel_rfl

end Go.Proofs.YtcfedmheblbdnaaGreatDoor.K

/- Bits: the reference's reader: the next text, the next count. -/
set_option linter.unusedVariables false
namespace Go.Proofs.YtcfedmheblbdnaaGreatDoor.K
open Go Go.V Go.RowKit

/-- How far the reference has read where it fails. -/
def resT (l : List Nat) : Nat :=
  match getN l with
  | none => 0
  | some o => o.2
theorem f33_spec {st : St} {f : Bool} {l : List (List AV)} {put : AV → Bool → St} (h : rdAt (.ptr 0 0) st = some (.sl f false l, put)) (hf : fit (.sl f l) = true) :
    f33.run 0 [.ptr 0 0] st = match getS (nR l) with
      | none => some (.ret (.str noText), put (.sl 1 f (l.drop (resT (nR l)))) true)
      | some o => some (.ret (.str o.1), put (.sl 1 f (l.drop o.2)) false) := by
  obtain ⟨h1, h2⟩ := fit_spec hf
  obtain ⟨os, hs, rfl⟩ := rdAt1 h
  rw [hs]; simp only [Rd.cells]
  rw [rtx_run, branch_of hf, getS, resT]
  cases hg : getN (nR l) with
  | none => rfl
  | some o =>
    obtain ⟨n, k⟩ := o
    simp only [onSome, List.length_drop, nR_length]
    by_cases hn : n < 0
    · rw [branch_of (decide_eq_true hn), if_pos (.inl hn)]; rfl
    · rw [branch_not (decide_eq_false hn)]
      by_cases hm : ((l.length - k : Nat) : Int) < n
      · rw [branch_of (decide_eq_true hm), if_pos (.inr hm)]; rfl
      · rw [branch_not (decide_eq_false hm), if_pos (by omega), if_neg (by omega), List.drop_zero, numsOf_ok (okR_take (okR_drop (l := l) h1 _) _)]
        simp only
        rw [if_pos (by omega), show (List.take (l.length - k) (List.drop k l)) = List.drop k l from List.take_of_length_le (by simp)]
        simp only [Nat.beq_refl, Bool.and_true, List.drop_drop, iR, nR_take, nR_drop, txt]
theorem f33_bad {st : St} {f : Bool} {l : List (List AV)} {put : AV → Bool → St} (h : rdAt (.ptr 0 0) st = some (.sl f true l, put)) : f33.run 0 [.ptr 0 0] st = some (.ret (.str noText), put (.sl 1 f l) true) := by
  obtain ⟨os, hs, rfl⟩ := rdAt1 h
  rw [hs]; simp only [Rd.cells]
  rw [rtx_bad]; rfl
/-- The reference's Reader.Text. -/
noncomputable def q33 : OrcS Tryz.prog := f33.cps
  (fun args st k => match args with
    | [.ptr 0 0] => match rdAt (.ptr 0 0) st with
      | some (.sl f true l, put) => k (.ret (.str noText)) (put (.sl 1 f l) true)
      | some (.sl f false l, put) => match fit (.sl f l) with
        | true => match getS (nR l) with
          | none => k (.ret (.str noText)) (put (.sl 1 f (l.drop (resT (nR l)))) true)
          | some o => k (.ret (.str o.1)) (put (.sl 1 f (l.drop o.2)) false)
        | false => none
      | _ => none
    | _ => none)
  fun args st k fin h => by
    split at h
    · split at h
      · rename_i h1; exact ⟨_, _, h, 0, f33_bad h1⟩
      · rename_i h1
        split at h
        · rename_i h2
          have := f33_spec h1 h2
          split at h
          · rename_i h3; rw [h3] at this; exact ⟨_, _, h, 0, this⟩
          · rename_i h3; rw [h3] at this; exact ⟨_, _, h, 0, this⟩
        · cases h
      · cases h
    · cases h
theorem f31_spec {st : St} {f : Bool} {l : List (List AV)} {n : Int} {put : AV → Bool → St} (h : rdAt (.ptr 0 0) st = some (.sl f false l, put)) (hf : fit (.sl f l) = true) :
    f31.run 0 [.ptr 0 0, .int .i64 n] st = match getC n (nR l) with
      | none => some (.ret (.int .i64 0), put (.sl 1 f (l.drop (resT (nR l)))) true)
      | some o => some (.ret (.int .i64 o.1), put (.sl 1 f (l.drop o.2)) false) := by
  obtain ⟨os, hs, rfl⟩ := rdAt1 h
  rw [hs]; simp only [Rd.cells]
  rw [rct_run, branch_of hf, getC, resT]
  cases hg : getN (nR l) with
  | none => rfl
  | some o =>
    obtain ⟨m, k⟩ := o
    simp only [onSome]
    by_cases hn : m < 0
    · rw [branch_of (decide_eq_true hn), if_pos (.inl hn)]
    · rw [branch_not (decide_eq_false hn)]
      by_cases hm : n < m
      · rw [branch_of (decide_eq_true hm), if_pos (.inr hm)]
      · rw [branch_not (decide_eq_false hm), if_neg (by omega)]
theorem f31_bad {st : St} {f : Bool} {l : List (List AV)} {n : Int} {put : AV → Bool → St} (h : rdAt (.ptr 0 0) st = some (.sl f true l, put)) : f31.run 0 [.ptr 0 0, .int .i64 n] st = some (.ret (.int .i64 0), put (.sl 1 f l) true) := by
  obtain ⟨os, hs, rfl⟩ := rdAt1 h
  rw [hs]; simp only [Rd.cells]
  rw [rct_bad]
/-- The reference's Reader.Count. -/
noncomputable def q31 : OrcS Tryz.prog := f31.cps
  (fun args st k => match args with
    | [.ptr 0 0, .int .i64 n] => match rdAt (.ptr 0 0) st with
      | some (.sl f true l, put) => k (.ret (.int .i64 0)) (put (.sl 1 f l) true)
      | some (.sl f false l, put) => match fit (.sl f l) with
        | true => match getC n (nR l) with
          | none => k (.ret (.int .i64 0)) (put (.sl 1 f (l.drop (resT (nR l)))) true)
          | some o => k (.ret (.int .i64 o.1)) (put (.sl 1 f (l.drop o.2)) false)
        | false => none
      | _ => none
    | _ => none)
  fun args st k fin h => by
    split at h
    · split at h
      · rename_i h1; exact ⟨_, _, h, 0, f31_bad h1⟩
      · rename_i h1
        split at h
        · rename_i h2
          split at h
          · rename_i h3; exact ⟨_, _, h, 0, by rw [f31_spec h1 h2, h3]⟩
          · rename_i h3; exact ⟨_, _, h, 0, by rw [f31_spec h1 h2, h3]⟩
        · cases h
      · cases h
    · cases h
end Go.Proofs.YtcfedmheblbdnaaGreatDoor.K

/- The functions' pieces, as told by gen.py. -/
set_option linter.unusedVariables false
set_option maxRecDepth 20000
namespace Go.Proofs.YtcfedmheblbdnaaGreatDoor.V
open Go Go.V Go.RowKit


/-! ### 7: interlock/value.Encode (23); results 2, 3; slots: 0 r, 1 r, 4 out, 5 _, 6 v -/
/-- A loop's round; at its head live: 4 out, 13 , 14 , 15  -/
noncomputable def g7_l0 : Sim Tryz.prog :=
 (.seq (.live [4, 13, 14, 15, 16] (.region 5 [
 ⟨(opBin (some 16) .lss 3 (.tmp 15) (.tmp 14) 3 0 "value.go:84" #[]).op, none⟩
 ] (by kernel_rfl)))
 (.seq (.cond (.tmp 16)
 .skip
 (.live [4] (.exit 0)))
 (.seq (.block 1 (.seq (.live [4, 6, 13, 14, 15] (.items 6 [
 .one ((opIndexAddrT (some 17) 23 (.tmp 13) (.tmp 15) 40 3 Tryz.underlying23 sz40 0 "value.go:84" #[]).op),
 .one ((opLoadT (.agg [(.int .i64), (.int .i64), .str]) (some 18) 40 (.tmp 17) d40 ud40 3 sz40 (by kernel_rfl) 40 "value.go:84" #[{ on := 0, ground := Ground.data }]).op),
 .two (op2Box 6 40 (.agg #[(.int .i64 0), (.int .i64 0), (.string ⟨#[]⟩)]) ze40 (.tmp 18) (by rfl) 3 sz40 (by kernel_rfl) 43 (by rfl) 0 0 "value.go:84" "value.go:84" #[] #[{ on := 2, ground := Ground.data }, { on := 1, ground := Ground.data }, { on := 0, ground := Ground.phase }, { on := 1, ground := Ground.phase }, { on := 2, ground := Ground.phase }])
 ]))
 (.seq (.live [4, 6, 13, 14, 15] (.region 7 [
 ⟨(opMove (some 19) (.tmp 4) 25 "value.go:85" #[]).op, none⟩,
 ⟨(opFieldAddr (some 20) 40 (.tmp 6) 0 0 1 false fl40_0 (by decide) 0 "value.go:85" #[]).op, none⟩,
 ⟨(opLoadT (.one (.int .i64)) (some 21) 3 (.tmp 20) (.int .i64) Tryz.underlying3 1 sz3 (by kernel_rfl) 3 "value.go:85" #[{ on := 1, ground := Ground.data }]).op, none⟩,
 ⟨opCall (K.q22).orc (some 22) [(.tmp 21)] #[3] 25 "value.go:85" #[{ on := 2, ground := Ground.data }], none⟩,
 ⟨(opAppend (some 23) (.tmp 19) (.tmp 22) 25 25 5 1 1 (.int .u8 0) el25 (.slice 5) Tryz.underlying25 rfl 25 "value.go:85" #[{ on := 0, ground := Ground.data }, { on := 3, ground := Ground.data }, { on := 3, ground := Ground.chain }]).op, none⟩,
 ⟨(opAssign (some 4) (.tmp 23) 25 "value.go:85" #[{ on := 4, ground := Ground.data }, { on := 4, ground := Ground.chain }, { on := 0, ground := Ground.phase }, { on := 1, ground := Ground.phase }, { on := 2, ground := Ground.phase }, { on := 3, ground := Ground.phase }, { on := 4, ground := Ground.phase }]).op, none⟩
 ] (by kernel_rfl)))
 (.seq (.live [4, 6, 13, 14, 15, 25] (.region 8 [
 ⟨(opFieldAddr (some 24) 40 (.tmp 6) 0 0 1 false fl40_0 (by decide) 0 "value.go:86" #[]).op, none⟩,
 ⟨(opLoadT (.one (.int .i64)) (some 25) 3 (.tmp 24) (.int .i64) Tryz.underlying3 1 sz3 (by kernel_rfl) 3 "value.go:86" #[{ on := 0, ground := Ground.data }]).op, none⟩
 ] (by kernel_rfl)))
 (.block 2 (.seq (.seq (.live [4, 6, 13, 14, 15, 25, 26] (.region 9 [
 ⟨(opBin (some 27) .eql 3 (.tmp 25) (.const (Value.int IntKind.i64 1)) 3 4 "value.go:87" #[]).op, none⟩,
 ⟨(opAssign (some 26) (.tmp 27) 4 "value.go:87" #[{ on := 0, ground := Ground.data }]).op, none⟩
 ] (by kernel_rfl)))
 (.cond (.tmp 26)
 .skip
 (.live [4, 6, 13, 14, 15, 25, 26] (.region 10 [
 ⟨(opBin (some 28) .eql 3 (.tmp 25) (.const (Value.int IntKind.i64 2)) 3 4 "value.go:87" #[]).op, none⟩,
 ⟨(opAssign (some 26) (.tmp 28) 4 "value.go:87" #[{ on := 0, ground := Ground.data }]).op, none⟩
 ] (by kernel_rfl)))))
 (.cond (.tmp 26)
 (.live [4, 13, 14, 15] (.region 11 [
 ⟨(opMove (some 29) (.tmp 4) 25 "value.go:88" #[]).op, none⟩,
 ⟨(opFieldAddr (some 30) 40 (.tmp 6) 1 1 1 false fl40_1 (by decide) 0 "value.go:88" #[]).op, none⟩,
 ⟨(opLoadT (.one (.int .i64)) (some 31) 3 (.tmp 30) (.int .i64) Tryz.underlying3 1 sz3 (by kernel_rfl) 3 "value.go:88" #[{ on := 1, ground := Ground.data }]).op, none⟩,
 ⟨opCall (K.q22).orc (some 32) [(.tmp 31)] #[3] 25 "value.go:88" #[{ on := 2, ground := Ground.data }], none⟩,
 ⟨(opAppend (some 33) (.tmp 29) (.tmp 32) 25 25 5 1 1 (.int .u8 0) el25 (.slice 5) Tryz.underlying25 rfl 25 "value.go:88" #[{ on := 0, ground := Ground.data }, { on := 3, ground := Ground.data }, { on := 3, ground := Ground.chain }]).op, none⟩,
 ⟨(opAssign (some 4) (.tmp 33) 25 "value.go:88" #[{ on := 4, ground := Ground.data }, { on := 4, ground := Ground.chain }, { on := 0, ground := Ground.phase }, { on := 1, ground := Ground.phase }, { on := 2, ground := Ground.phase }, { on := 3, ground := Ground.phase }, { on := 4, ground := Ground.phase }]).op, none⟩
 ] (by kernel_rfl)))
 (.seq (.live [4, 6, 13, 14, 15, 34] (.region 12 [
 ⟨(opBin (some 35) .eql 3 (.tmp 25) (.const (Value.int IntKind.i64 3)) 3 4 "value.go:89" #[]).op, none⟩,
 ⟨(opAssign (some 34) (.tmp 35) 4 "value.go:89" #[{ on := 0, ground := Ground.data }]).op, none⟩
 ] (by kernel_rfl)))
 (.cond (.tmp 34)
 (.live [4, 13, 14, 15] (.region 13 [
 ⟨(opMove (some 36) (.tmp 4) 25 "value.go:90" #[]).op, none⟩,
 ⟨(opFieldAddr (some 37) 40 (.tmp 6) 2 2 1 false fl40_2 (by decide) 0 "value.go:90" #[]).op, none⟩,
 ⟨(opLoadT (.one .str) (some 38) 9 (.tmp 37) .string Tryz.underlying9 1 sz9 (by kernel_rfl) 9 "value.go:90" #[{ on := 1, ground := Ground.data }]).op, none⟩,
 ⟨opCall (K.q23).orc (some 39) [(.tmp 38)] #[9] 25 "value.go:90" #[{ on := 2, ground := Ground.data }], none⟩,
 ⟨(opAppend (some 40) (.tmp 36) (.tmp 39) 25 25 5 1 1 (.int .u8 0) el25 (.slice 5) Tryz.underlying25 rfl 25 "value.go:90" #[{ on := 0, ground := Ground.data }, { on := 3, ground := Ground.data }, { on := 3, ground := Ground.chain }]).op, none⟩,
 ⟨(opAssign (some 4) (.tmp 40) 25 "value.go:90" #[{ on := 4, ground := Ground.data }, { on := 4, ground := Ground.chain }, { on := 0, ground := Ground.phase }, { on := 1, ground := Ground.phase }, { on := 2, ground := Ground.phase }, { on := 3, ground := Ground.phase }, { on := 4, ground := Ground.phase }]).op, none⟩
 ] (by kernel_rfl)))
 .skip)))))))))
 (.live [4, 13, 14, 15] (.region 14 [
 ⟨(opBin (some 41) .add 3 (.tmp 15) (.const (Value.int IntKind.i64 1)) 3 3 "value.go:84" #[]).op, none⟩,
 ⟨(opMove (some 15) (.tmp 41) 3 "value.go:84" #[{ on := 0, ground := Ground.data }]).op, none⟩
 ] (by kernel_rfl))))))

/-- What follows a loop. -/
noncomputable def g7_r0 : Sim Tryz.prog :=
 (.seq (.live [2, 3] (.region 15 [
 ⟨(opMove (some 42) (.tmp 4) 25 "value.go:93" #[]).op, none⟩,
 ⟨(opAssign (some 2) (.tmp 42) 25 "value.go:93" #[{ on := 0, ground := Ground.data }, { on := 0, ground := Ground.phase }]).op, none⟩,
 ⟨(opAssign (some 3) (.const (Value.bool true)) 4 "value.go:93" #[{ on := 1, ground := Ground.chain }, { on := 0, ground := Ground.phase }, { on := 1, ground := Ground.phase }]).op, none⟩
 ] (by kernel_rfl)))
 (.live [2, 3] .ret))

noncomputable def g7_b : Sim Tryz.prog :=
 (.seq (.live [0] (.region 0 [
 ⟨(opAssign (some 2) (.const (Value.slice none 0 0)) 25 "value.go:79" #[]).op, none⟩,
 ⟨(opAssign (some 3) (.const (Value.bool false)) 4 "value.go:79" #[{ on := 0, ground := Ground.chain }]).op, none⟩
 ] (by kernel_rfl)))
 (.seq (.seq (.live [0, 9] (.region 1 [
 ⟨(opMove (some 7) (.tmp 0) 23 "value.go:80" #[]).op, none⟩,
 ⟨(opCallP p11 (some 8) [(.tmp 7)] #[23] 4 "value.go:80" #[{ on := 0, ground := Ground.data }]).op, none⟩,
 ⟨(opNot (some 9) 4 (.tmp 8) 4 "value.go:80" #[{ on := 1, ground := Ground.data }]).op, none⟩
 ] (by kernel_rfl)))
 (.cond (.tmp 9)
 (.seq (.live [2, 3] (.region 2 [
 ⟨(opAssign (some 2) (.const (Value.slice none 0 0)) 25 "value.go:81" #[]).op, none⟩,
 ⟨(opAssign (some 3) (.const (Value.bool false)) 4 "value.go:81" #[{ on := 0, ground := Ground.chain }, { on := 0, ground := Ground.phase }]).op, none⟩
 ] (by kernel_rfl)))
 (.live [2, 3] .ret))
 .skip))
 (.seq (.live [0, 4] (.region 3 [
 ⟨(opMove (some 10) (.tmp 0) 23 "value.go:83" #[]).op, none⟩,
 ⟨(opLen (some 11) (.tmp 10) 23 (.slice 40) Tryz.underlying23 3 "value.go:83" #[{ on := 0, ground := Ground.data }]).op, none⟩,
 ⟨opCall (K.q22).orc (some 12) [(.tmp 11)] #[3] 25 "value.go:83" #[{ on := 1, ground := Ground.data }], none⟩,
 ⟨(opAssign (some 4) (.tmp 12) 25 "value.go:83" #[{ on := 2, ground := Ground.data }, { on := 2, ground := Ground.chain }, { on := 0, ground := Ground.phase }, { on := 1, ground := Ground.phase }, { on := 2, ground := Ground.phase }]).op, none⟩
 ] (by kernel_rfl)))
 (.seq (.seq (.live [4, 13, 14, 15] (.region 4 [
 ⟨(opMove (some 13) (.tmp 0) 23 "value.go:84" #[]).op, none⟩,
 ⟨(opLen (some 14) (.tmp 13) 23 (.slice 40) Tryz.underlying23 3 "value.go:84" #[{ on := 0, ground := Ground.data }]).op, none⟩,
 ⟨(opMove (some 15) (.const (Value.int IntKind.i64 0)) 3 "value.go:84" #[]).op, none⟩
 ] (by kernel_rfl)))
 (.block 0 (.loop [4, 13, 14, 15] g7_l0)))
 g7_r0))))

noncomputable def g7 : Fun Tryz.prog where
 id := 7
 fn := Tryz.f7
 hf := Tryz.func7
 hname := by kernel_rfl
 body := g7_b
 hbody := by kernel_rfl
 res := [rTmp 2, rTmp 3]
 hres := by kernel_rfl
 n := 43
 hn := by kernel_rfl

end Go.Proofs.YtcfedmheblbdnaaGreatDoor.V

/- The functions' pieces, as told by gen.py. -/
set_option linter.unusedVariables false
set_option maxRecDepth 20000
namespace Go.Proofs.YtcfedmheblbdnaaGreatDoor.V
open Go Go.V Go.RowKit


/-! ### 8: interlock/interlockref04.Encode (23); results 2, 3; slots: 0 r, 1 r, 4 out, 5 i -/
/-- A loop's round; at its head live: 0 r, 4 out, 5 i -/
noncomputable def f8_l0 : Sim Tryz.prog :=
 (.seq (.seq (.live [0, 4, 5, 15] (.region 5 [
 ⟨(opMove (some 12) (.tmp 5) 3 "ref.go:125" #[]).op, none⟩,
 ⟨(opMove (some 13) (.tmp 0) 23 "ref.go:125" #[]).op, none⟩,
 ⟨(opLen (some 14) (.tmp 13) 23 (.slice 40) Tryz.underlying23 3 "ref.go:125" #[{ on := 1, ground := Ground.data }]).op, none⟩,
 ⟨(opBin (some 15) .lss 3 (.tmp 12) (.tmp 14) 3 4 "ref.go:125" #[{ on := 0, ground := Ground.data }, { on := 2, ground := Ground.data }]).op, none⟩
 ] (by kernel_rfl)))
 (.cond (.tmp 15)
 .skip
 (.live [4] (.exit 0))))
 (.seq (.block 1 (.seq (.live [0, 4, 5] (.region 7 [
 ⟨(opMove (some 18) (.tmp 4) 25 "ref.go:126" #[]).op, none⟩,
 ⟨(opMove (some 19) (.tmp 0) 23 "ref.go:126" #[]).op, none⟩,
 ⟨(opMove (some 20) (.tmp 5) 3 "ref.go:126" #[]).op, none⟩,
 ⟨(opIndexAddrT (some 21) 23 (.tmp 19) (.tmp 20) 40 3 Tryz.underlying23 sz40 0 "ref.go:126" #[{ on := 1, ground := Ground.data }, { on := 2, ground := Ground.data }]).op, none⟩,
 ⟨(opFieldAddr (some 22) 40 (.tmp 21) 0 0 1 false fl40_0 (by decide) 0 "ref.go:126" #[{ on := 3, ground := Ground.data }]).op, none⟩,
 ⟨(opLoadT (.one (.int .i64)) (some 23) 3 (.tmp 22) (.int .i64) Tryz.underlying3 1 sz3 (by kernel_rfl) 3 "ref.go:126" #[{ on := 4, ground := Ground.data }]).op, none⟩,
 ⟨opCall (K.q24).orc (some 24) [(.tmp 23)] #[3] 25 "ref.go:126" #[{ on := 5, ground := Ground.data }], none⟩,
 ⟨(opAppend (some 25) (.tmp 18) (.tmp 24) 25 25 5 1 1 (.int .u8 0) el25 (.slice 5) Tryz.underlying25 rfl 25 "ref.go:126" #[{ on := 0, ground := Ground.data }, { on := 6, ground := Ground.data }, { on := 6, ground := Ground.chain }]).op, none⟩,
 ⟨(opAssign (some 4) (.tmp 25) 25 "ref.go:126" #[{ on := 7, ground := Ground.data }, { on := 7, ground := Ground.chain }, { on := 0, ground := Ground.phase }, { on := 1, ground := Ground.phase }, { on := 2, ground := Ground.phase }, { on := 3, ground := Ground.phase }, { on := 4, ground := Ground.phase }, { on := 5, ground := Ground.phase }, { on := 6, ground := Ground.phase }, { on := 7, ground := Ground.phase }]).op, none⟩
 ] (by kernel_rfl)))
 (.seq (.seq (.live [0, 4, 5, 39] (.region 8 [
 ⟨(opMove (some 26) (.tmp 0) 23 "ref.go:127" #[]).op, none⟩,
 ⟨(opMove (some 27) (.tmp 5) 3 "ref.go:127" #[]).op, none⟩,
 ⟨(opIndexAddrT (some 28) 23 (.tmp 26) (.tmp 27) 40 3 Tryz.underlying23 sz40 0 "ref.go:127" #[{ on := 0, ground := Ground.data }, { on := 1, ground := Ground.data }]).op, none⟩,
 ⟨(opFieldAddr (some 29) 40 (.tmp 28) 0 0 1 false fl40_0 (by decide) 0 "ref.go:127" #[{ on := 2, ground := Ground.data }]).op, none⟩,
 ⟨(opLoadT (.one (.int .i64)) (some 30) 3 (.tmp 29) (.int .i64) Tryz.underlying3 1 sz3 (by kernel_rfl) 3 "ref.go:127" #[{ on := 3, ground := Ground.data }]).op, none⟩,
 ⟨(opBin (some 31) .eql 3 (.tmp 30) (.const (Value.int IntKind.i64 1)) 3 4 "ref.go:127" #[{ on := 4, ground := Ground.data }]).op, none⟩,
 ⟨(opMove (some 32) (.tmp 31) 4 "ref.go:127" #[{ on := 5, ground := Ground.data }]).op, none⟩,
 ⟨(opMove (some 33) (.tmp 0) 23 "ref.go:127" #[{ on := 6, ground := Ground.guard }]).op, (some (6, 32, false))⟩,
 ⟨(opMove (some 34) (.tmp 5) 3 "ref.go:127" #[{ on := 6, ground := Ground.guard }]).op, (some (6, 32, false))⟩,
 ⟨(opIndexAddrT (some 35) 23 (.tmp 33) (.tmp 34) 40 3 Tryz.underlying23 sz40 0 "ref.go:127" #[{ on := 7, ground := Ground.data }, { on := 8, ground := Ground.data }, { on := 6, ground := Ground.guard }]).op, (some (6, 32, false))⟩,
 ⟨(opFieldAddr (some 36) 40 (.tmp 35) 0 0 1 false fl40_0 (by decide) 0 "ref.go:127" #[{ on := 9, ground := Ground.data }, { on := 6, ground := Ground.guard }]).op, (some (6, 32, false))⟩,
 ⟨(opLoadT (.one (.int .i64)) (some 37) 3 (.tmp 36) (.int .i64) Tryz.underlying3 1 sz3 (by kernel_rfl) 3 "ref.go:127" #[{ on := 10, ground := Ground.data }, { on := 6, ground := Ground.guard }]).op, (some (6, 32, false))⟩,
 ⟨(opBin (some 38) .eql 3 (.tmp 37) (.const (Value.int IntKind.i64 2)) 3 4 "ref.go:127" #[{ on := 11, ground := Ground.data }, { on := 6, ground := Ground.guard }]).op, (some (6, 32, false))⟩,
 ⟨(opPick (some 39) (.tmp 32) (.const (Value.bool true)) (.tmp 38) 4 "ref.go:127" #[{ on := 6, ground := Ground.data }, { on := 12, ground := Ground.data }]).op, none⟩
 ] (by kernel_rfl)))
 (.cond (.tmp 39)
 (.live [0, 4, 5] (.region 9 [
 ⟨(opMove (some 40) (.tmp 4) 25 "ref.go:128" #[]).op, none⟩,
 ⟨(opMove (some 41) (.tmp 0) 23 "ref.go:128" #[]).op, none⟩,
 ⟨(opMove (some 42) (.tmp 5) 3 "ref.go:128" #[]).op, none⟩,
 ⟨(opIndexAddrT (some 43) 23 (.tmp 41) (.tmp 42) 40 3 Tryz.underlying23 sz40 0 "ref.go:128" #[{ on := 1, ground := Ground.data }, { on := 2, ground := Ground.data }]).op, none⟩,
 ⟨(opFieldAddr (some 44) 40 (.tmp 43) 1 1 1 false fl40_1 (by decide) 0 "ref.go:128" #[{ on := 3, ground := Ground.data }]).op, none⟩,
 ⟨(opLoadT (.one (.int .i64)) (some 45) 3 (.tmp 44) (.int .i64) Tryz.underlying3 1 sz3 (by kernel_rfl) 3 "ref.go:128" #[{ on := 4, ground := Ground.data }]).op, none⟩,
 ⟨opCall (K.q24).orc (some 46) [(.tmp 45)] #[3] 25 "ref.go:128" #[{ on := 5, ground := Ground.data }], none⟩,
 ⟨(opAppend (some 47) (.tmp 40) (.tmp 46) 25 25 5 1 1 (.int .u8 0) el25 (.slice 5) Tryz.underlying25 rfl 25 "ref.go:128" #[{ on := 0, ground := Ground.data }, { on := 6, ground := Ground.data }, { on := 6, ground := Ground.chain }]).op, none⟩,
 ⟨(opAssign (some 4) (.tmp 47) 25 "ref.go:128" #[{ on := 7, ground := Ground.data }, { on := 7, ground := Ground.chain }, { on := 0, ground := Ground.phase }, { on := 1, ground := Ground.phase }, { on := 2, ground := Ground.phase }, { on := 3, ground := Ground.phase }, { on := 4, ground := Ground.phase }, { on := 5, ground := Ground.phase }, { on := 6, ground := Ground.phase }, { on := 7, ground := Ground.phase }]).op, none⟩
 ] (by kernel_rfl)))
 .skip))
 (.seq (.live [0, 4, 5, 53] (.region 10 [
 ⟨(opMove (some 48) (.tmp 0) 23 "ref.go:130" #[]).op, none⟩,
 ⟨(opMove (some 49) (.tmp 5) 3 "ref.go:130" #[]).op, none⟩,
 ⟨(opIndexAddrT (some 50) 23 (.tmp 48) (.tmp 49) 40 3 Tryz.underlying23 sz40 0 "ref.go:130" #[{ on := 0, ground := Ground.data }, { on := 1, ground := Ground.data }]).op, none⟩,
 ⟨(opFieldAddr (some 51) 40 (.tmp 50) 0 0 1 false fl40_0 (by decide) 0 "ref.go:130" #[{ on := 2, ground := Ground.data }]).op, none⟩,
 ⟨(opLoadT (.one (.int .i64)) (some 52) 3 (.tmp 51) (.int .i64) Tryz.underlying3 1 sz3 (by kernel_rfl) 3 "ref.go:130" #[{ on := 3, ground := Ground.data }]).op, none⟩,
 ⟨(opBin (some 53) .eql 3 (.tmp 52) (.const (Value.int IntKind.i64 3)) 3 4 "ref.go:130" #[{ on := 4, ground := Ground.data }]).op, none⟩
 ] (by kernel_rfl)))
 (.cond (.tmp 53)
 (.live [0, 4, 5] (.region 11 [
 ⟨(opMove (some 54) (.tmp 4) 25 "ref.go:131" #[]).op, none⟩,
 ⟨(opMove (some 55) (.tmp 0) 23 "ref.go:131" #[]).op, none⟩,
 ⟨(opMove (some 56) (.tmp 5) 3 "ref.go:131" #[]).op, none⟩,
 ⟨(opIndexAddrT (some 57) 23 (.tmp 55) (.tmp 56) 40 3 Tryz.underlying23 sz40 0 "ref.go:131" #[{ on := 1, ground := Ground.data }, { on := 2, ground := Ground.data }]).op, none⟩,
 ⟨(opFieldAddr (some 58) 40 (.tmp 57) 2 2 1 false fl40_2 (by decide) 0 "ref.go:131" #[{ on := 3, ground := Ground.data }]).op, none⟩,
 ⟨(opLoadT (.one .str) (some 59) 9 (.tmp 58) .string Tryz.underlying9 1 sz9 (by kernel_rfl) 9 "ref.go:131" #[{ on := 4, ground := Ground.data }]).op, none⟩,
 ⟨opCall (K.q25).orc (some 60) [(.tmp 59)] #[9] 25 "ref.go:131" #[{ on := 5, ground := Ground.data }], none⟩,
 ⟨(opAppend (some 61) (.tmp 54) (.tmp 60) 25 25 5 1 1 (.int .u8 0) el25 (.slice 5) Tryz.underlying25 rfl 25 "ref.go:131" #[{ on := 0, ground := Ground.data }, { on := 6, ground := Ground.data }, { on := 6, ground := Ground.chain }]).op, none⟩,
 ⟨(opAssign (some 4) (.tmp 61) 25 "ref.go:131" #[{ on := 7, ground := Ground.data }, { on := 7, ground := Ground.chain }, { on := 0, ground := Ground.phase }, { on := 1, ground := Ground.phase }, { on := 2, ground := Ground.phase }, { on := 3, ground := Ground.phase }, { on := 4, ground := Ground.phase }, { on := 5, ground := Ground.phase }, { on := 6, ground := Ground.phase }, { on := 7, ground := Ground.phase }]).op, none⟩
 ] (by kernel_rfl)))
 .skip)))))
 (.live [0, 4, 5] (.region 6 [
 ⟨(opMove (some 16) (.tmp 5) 3 "ref.go:125" #[]).op, none⟩,
 ⟨(opBin (some 17) .add 3 (.tmp 16) (.const (Value.int IntKind.i64 1)) 3 3 "ref.go:125" #[{ on := 0, ground := Ground.data }]).op, none⟩,
 ⟨(opAssign (some 5) (.tmp 17) 3 "ref.go:125" #[{ on := 1, ground := Ground.data }, { on := 0, ground := Ground.phase }, { on := 1, ground := Ground.phase }]).op, none⟩
 ] (by kernel_rfl)))))

/-- What follows a loop. -/
noncomputable def f8_r0 : Sim Tryz.prog :=
 (.seq (.live [2, 3] (.region 12 [
 ⟨(opMove (some 62) (.tmp 4) 25 "ref.go:134" #[]).op, none⟩,
 ⟨(opAssign (some 2) (.tmp 62) 25 "ref.go:134" #[{ on := 0, ground := Ground.data }, { on := 0, ground := Ground.phase }]).op, none⟩,
 ⟨(opAssign (some 3) (.const (Value.bool true)) 4 "ref.go:134" #[{ on := 1, ground := Ground.chain }, { on := 0, ground := Ground.phase }, { on := 1, ground := Ground.phase }]).op, none⟩
 ] (by kernel_rfl)))
 (.live [2, 3] .ret))

noncomputable def f8_b : Sim Tryz.prog :=
 (.seq (.live [0] (.region 0 [
 ⟨(opAssign (some 2) (.const (Value.slice none 0 0)) 25 "ref.go:120" #[]).op, none⟩,
 ⟨(opAssign (some 3) (.const (Value.bool false)) 4 "ref.go:120" #[{ on := 0, ground := Ground.chain }]).op, none⟩
 ] (by kernel_rfl)))
 (.seq (.seq (.live [0, 8] (.region 1 [
 ⟨(opMove (some 6) (.tmp 0) 23 "ref.go:121" #[]).op, none⟩,
 ⟨(opCallP p12 (some 7) [(.tmp 6)] #[23] 4 "ref.go:121" #[{ on := 0, ground := Ground.data }]).op, none⟩,
 ⟨(opNot (some 8) 4 (.tmp 7) 4 "ref.go:121" #[{ on := 1, ground := Ground.data }]).op, none⟩
 ] (by kernel_rfl)))
 (.cond (.tmp 8)
 (.seq (.live [2, 3] (.region 2 [
 ⟨(opAssign (some 2) (.const (Value.slice none 0 0)) 25 "ref.go:122" #[]).op, none⟩,
 ⟨(opAssign (some 3) (.const (Value.bool false)) 4 "ref.go:122" #[{ on := 0, ground := Ground.chain }, { on := 0, ground := Ground.phase }]).op, none⟩
 ] (by kernel_rfl)))
 (.live [2, 3] .ret))
 .skip))
 (.seq (.live [0, 4] (.region 3 [
 ⟨(opMove (some 9) (.tmp 0) 23 "ref.go:124" #[]).op, none⟩,
 ⟨(opLen (some 10) (.tmp 9) 23 (.slice 40) Tryz.underlying23 3 "ref.go:124" #[{ on := 0, ground := Ground.data }]).op, none⟩,
 ⟨opCall (K.q24).orc (some 11) [(.tmp 10)] #[3] 25 "ref.go:124" #[{ on := 1, ground := Ground.data }], none⟩,
 ⟨(opAssign (some 4) (.tmp 11) 25 "ref.go:124" #[{ on := 2, ground := Ground.data }, { on := 2, ground := Ground.chain }, { on := 0, ground := Ground.phase }, { on := 1, ground := Ground.phase }, { on := 2, ground := Ground.phase }]).op, none⟩
 ] (by kernel_rfl)))
 (.seq (.seq (.live [0, 4, 5] (.region 4 [
 ⟨(opAssign (some 5) (.const (Value.int IntKind.i64 0)) 3 "ref.go:125" #[]).op, none⟩
 ] (by kernel_rfl)))
 (.block 0 (.loop [0, 4, 5] f8_l0)))
 f8_r0))))

noncomputable def f8 : Fun Tryz.prog where
 id := 8
 fn := Tryz.f8
 hf := Tryz.func8
 hname := by kernel_rfl
 body := f8_b
 hbody := by kernel_rfl
 res := [rTmp 2, rTmp 3]
 hres := by kernel_rfl
 n := 63
 hn := by kernel_rfl

end Go.Proofs.YtcfedmheblbdnaaGreatDoor.V

/- What the functions' runs come to; the right sides were printed by a tool, Lean checks them. -/
set_option linter.unusedVariables false
set_option maxRecDepth 100000
namespace Go.Proofs.YtcfedmheblbdnaaGreatDoor.V
open Go Go.V Go.RowKit

theorem en_run (F : Nat) (z : Bool) (l : List (List AV)) :
 (g7.run F [.ns z 3 l] ⟨[], []⟩ : Ans) =
 branch (AV.bool (okV l))
 (branch (AV.bool !rrV l) (some (Fin.ret (AV.tup [AV.nilsl, AV.bool false]), St.mk [] []))
 (branch (AV.bool (K.i64B (↑l.length : Int)))
 (loopRun (g7_l0.run F) [4, 13, 14, 15]
 (Cont.block 0 (Cont.then (g7_r0.run F (g7.leaveK Fun.done)) (g7.leaveK Fun.done))) F
 (Env.mk 43
 [(4, AV.lg 0 1 (K.rb (K.intBytes (↑l.length : Int)))),
 (13, AV.ns z 3 l), (14, AV.int IntKind.i64 (↑l.length : Int)),
 (15, AV.int IntKind.i64 (0 : Int))])
 (St.mk [] [(1, (K.intBytes (↑l.length : Int)).length)]))
 none))
 none := by kernel_rfl

theorem ren_run (F : Nat) (z : Bool) (l : List (List AV)) :
 (f8.run F [.ns z 3 l] ⟨[], []⟩ : Ans) =
 branch (AV.bool (okV l))
 (branch (AV.bool !rrV l) (some (Fin.ret (AV.tup [AV.nilsl, AV.bool false]), St.mk [] []))
 (branch (AV.bool (K.i64B (↑l.length : Int)))
 (loopRun (f8_l0.run F) [0, 4, 5]
 (Cont.block 0 (Cont.then (f8_r0.run F (f8.leaveK Fun.done)) (f8.leaveK Fun.done))) F
 (Env.mk 63
 [(0, AV.ns z 3 l),
 (4, AV.lg 0 1 (K.rb (K.intBytes (↑l.length : Int)))),
 (5, AV.int IntKind.i64 (0 : Int))])
 (St.mk [] [(1, (K.intBytes (↑l.length : Int)).length)]))
 none))
 none := by kernel_rfl

theorem en_round (F m : Nat) (K : Cont) (z : Bool) (lo l : List (List AV)) (i : Int) (xt : List (Nat × Nat)) :
 (loopRun (g7_l0.run F) [4, 13, 14, 15] K m.succ (Env.mk 43 [(4, .lg 0 1 lo), (13, .ns z 3 l), (14, .int .i64 (l.length : Int)), (15, .int .i64 i)]) ⟨[], (1, lo.length) :: xt⟩ : Ans) =
 branch (AV.bool (decide (i < (↑l.length : Int))))
 (branch (AV.bool (inR l i))
 (branch (AV.bool ((LD.agg [LT.int IntKind.i64, LT.int IntKind.i64, LT.str]).is (V.rowAt l i)))
 (branch (AV.bool (YtcfedmheblbdnaaGreatDoor.K.i64B (hdI (V.rowAt l i))))
 (if
 some (1, lo.length) = some (1, lo.length) ∧
 (lo.length +
 (YtcfedmheblbdnaaGreatDoor.K.rb
 (YtcfedmheblbdnaaGreatDoor.K.intBytes (hdI (V.rowAt l i)))).length) *
 1 ≤
 140737488355328 then
 branch (AV.bool (hdI (V.rowAt l i) == (1 : Int)))
 (branch (AV.bool (YtcfedmheblbdnaaGreatDoor.K.i64B (hdI (V.rowAt l i).tail)))
 (if
 some
 (1,
 lo.length +
 (YtcfedmheblbdnaaGreatDoor.K.rb
 (YtcfedmheblbdnaaGreatDoor.K.intBytes (hdI (V.rowAt l i)))).length) =
 some
 (1,
 (lo ++
 YtcfedmheblbdnaaGreatDoor.K.rb
 (YtcfedmheblbdnaaGreatDoor.K.intBytes (hdI (V.rowAt l i)))).length) ∧
 ((lo ++
 YtcfedmheblbdnaaGreatDoor.K.rb
 (YtcfedmheblbdnaaGreatDoor.K.intBytes (hdI (V.rowAt l i)))).length +
 (YtcfedmheblbdnaaGreatDoor.K.rb
 (YtcfedmheblbdnaaGreatDoor.K.intBytes (hdI (V.rowAt l i).tail))).length) *
 1 ≤
 140737488355328 then
 loopRun (g7_l0.run F) [4, 13, 14, 15] K m
 (Env.mk 43
 [(4,
 AV.lg 0 1
 (lo ++
 YtcfedmheblbdnaaGreatDoor.K.rb
 (YtcfedmheblbdnaaGreatDoor.K.intBytes (hdI (V.rowAt l i))) ++
 YtcfedmheblbdnaaGreatDoor.K.rb
 (YtcfedmheblbdnaaGreatDoor.K.intBytes (hdI (V.rowAt l i).tail)))),
 (13, AV.ns z 3 l), (14, AV.int IntKind.i64 (↑l.length : Int)),
 (15, AV.int IntKind.i64 (IntKind.i64.wrap (i + (1 : Int))))])
 (St.mk []
 ((St.mk []
 ((St.mk []
 ((St.mk []
 ((1, lo.length) :: xt ++
 [(1,
 (YtcfedmheblbdnaaGreatDoor.K.intBytes
 (hdI (V.rowAt l i))).length)])).tk.set
 0
 (1,
 lo.length +
 (YtcfedmheblbdnaaGreatDoor.K.rb
 (YtcfedmheblbdnaaGreatDoor.K.intBytes (hdI (V.rowAt l i)))).length))).tk ++
 [(1,
 (YtcfedmheblbdnaaGreatDoor.K.intBytes (hdI (V.rowAt l i).tail)).length)])).tk.set
 0
 (1,
 (lo ++
 YtcfedmheblbdnaaGreatDoor.K.rb
 (YtcfedmheblbdnaaGreatDoor.K.intBytes (hdI (V.rowAt l i)))).length +
 (YtcfedmheblbdnaaGreatDoor.K.rb
 (YtcfedmheblbdnaaGreatDoor.K.intBytes (hdI (V.rowAt l i).tail))).length)))
 else none)
 none)
 (branch (AV.bool (hdI (V.rowAt l i) == (2 : Int)))
 (branch (AV.bool (YtcfedmheblbdnaaGreatDoor.K.i64B (hdI (V.rowAt l i).tail)))
 (if
 some
 (1,
 lo.length +
 (YtcfedmheblbdnaaGreatDoor.K.rb
 (YtcfedmheblbdnaaGreatDoor.K.intBytes (hdI (V.rowAt l i)))).length) =
 some
 (1,
 (lo ++
 YtcfedmheblbdnaaGreatDoor.K.rb
 (YtcfedmheblbdnaaGreatDoor.K.intBytes (hdI (V.rowAt l i)))).length) ∧
 ((lo ++
 YtcfedmheblbdnaaGreatDoor.K.rb
 (YtcfedmheblbdnaaGreatDoor.K.intBytes (hdI (V.rowAt l i)))).length +
 (YtcfedmheblbdnaaGreatDoor.K.rb
 (YtcfedmheblbdnaaGreatDoor.K.intBytes (hdI (V.rowAt l i).tail))).length) *
 1 ≤
 140737488355328 then
 loopRun (g7_l0.run F) [4, 13, 14, 15] K m
 (Env.mk 43
 [(4,
 AV.lg 0 1
 (lo ++
 YtcfedmheblbdnaaGreatDoor.K.rb
 (YtcfedmheblbdnaaGreatDoor.K.intBytes (hdI (V.rowAt l i))) ++
 YtcfedmheblbdnaaGreatDoor.K.rb
 (YtcfedmheblbdnaaGreatDoor.K.intBytes (hdI (V.rowAt l i).tail)))),
 (13, AV.ns z 3 l), (14, AV.int IntKind.i64 (↑l.length : Int)),
 (15, AV.int IntKind.i64 (IntKind.i64.wrap (i + (1 : Int))))])
 (St.mk []
 ((St.mk []
 ((St.mk []
 ((St.mk []
 ((1, lo.length) :: xt ++
 [(1,
 (YtcfedmheblbdnaaGreatDoor.K.intBytes
 (hdI (V.rowAt l i))).length)])).tk.set
 0
 (1,
 lo.length +
 (YtcfedmheblbdnaaGreatDoor.K.rb
 (YtcfedmheblbdnaaGreatDoor.K.intBytes
 (hdI (V.rowAt l i)))).length))).tk ++
 [(1,
 (YtcfedmheblbdnaaGreatDoor.K.intBytes (hdI (V.rowAt l i).tail)).length)])).tk.set
 0
 (1,
 (lo ++
 YtcfedmheblbdnaaGreatDoor.K.rb
 (YtcfedmheblbdnaaGreatDoor.K.intBytes (hdI (V.rowAt l i)))).length +
 (YtcfedmheblbdnaaGreatDoor.K.rb
 (YtcfedmheblbdnaaGreatDoor.K.intBytes (hdI (V.rowAt l i).tail))).length)))
 else none)
 none)
 (branch (AV.bool (hdI (V.rowAt l i) == (3 : Int)))
 (branch (AV.bool (YtcfedmheblbdnaaGreatDoor.K.shortS (hdS (V.rowAt l i).tail.tail)))
 (if
 some
 (1,
 lo.length +
 (YtcfedmheblbdnaaGreatDoor.K.rb
 (YtcfedmheblbdnaaGreatDoor.K.intBytes (hdI (V.rowAt l i)))).length) =
 some
 (1,
 (lo ++
 YtcfedmheblbdnaaGreatDoor.K.rb
 (YtcfedmheblbdnaaGreatDoor.K.intBytes (hdI (V.rowAt l i)))).length) ∧
 ((lo ++
 YtcfedmheblbdnaaGreatDoor.K.rb
 (YtcfedmheblbdnaaGreatDoor.K.intBytes (hdI (V.rowAt l i)))).length +
 (YtcfedmheblbdnaaGreatDoor.K.rb
 (YtcfedmheblbdnaaGreatDoor.K.textBytes (hdS (V.rowAt l i).tail.tail))).length) *
 1 ≤
 140737488355328 then
 loopRun (g7_l0.run F) [4, 13, 14, 15] K m
 (Env.mk 43
 [(4,
 AV.lg 0 1
 (lo ++
 YtcfedmheblbdnaaGreatDoor.K.rb
 (YtcfedmheblbdnaaGreatDoor.K.intBytes (hdI (V.rowAt l i))) ++
 YtcfedmheblbdnaaGreatDoor.K.rb
 (YtcfedmheblbdnaaGreatDoor.K.textBytes (hdS (V.rowAt l i).tail.tail)))),
 (13, AV.ns z 3 l), (14, AV.int IntKind.i64 (↑l.length : Int)),
 (15, AV.int IntKind.i64 (IntKind.i64.wrap (i + (1 : Int))))])
 (St.mk []
 ((St.mk []
 ((St.mk []
 ((St.mk []
 ((1, lo.length) :: xt ++
 [(1,
 (YtcfedmheblbdnaaGreatDoor.K.intBytes
 (hdI (V.rowAt l i))).length)])).tk.set
 0
 (1,
 lo.length +
 (YtcfedmheblbdnaaGreatDoor.K.rb
 (YtcfedmheblbdnaaGreatDoor.K.intBytes
 (hdI (V.rowAt l i)))).length))).tk ++
 [(1,
 (YtcfedmheblbdnaaGreatDoor.K.textBytes
 (hdS (V.rowAt l i).tail.tail)).length)])).tk.set
 0
 (1,
 (lo ++
 YtcfedmheblbdnaaGreatDoor.K.rb
 (YtcfedmheblbdnaaGreatDoor.K.intBytes (hdI (V.rowAt l i)))).length +
 (YtcfedmheblbdnaaGreatDoor.K.rb
 (YtcfedmheblbdnaaGreatDoor.K.textBytes (hdS (V.rowAt l i).tail.tail))).length)))
 else none)
 none)
 (loopRun (g7_l0.run F) [4, 13, 14, 15] K m
 (Env.mk 43
 [(4,
 AV.lg 0 1
 (lo ++
 YtcfedmheblbdnaaGreatDoor.K.rb (YtcfedmheblbdnaaGreatDoor.K.intBytes (hdI (V.rowAt l i))))),
 (13, AV.ns z 3 l), (14, AV.int IntKind.i64 (↑l.length : Int)),
 (15, AV.int IntKind.i64 (IntKind.i64.wrap (i + (1 : Int))))])
 (St.mk []
 ((St.mk []
 ((1, lo.length) :: xt ++
 [(1, (YtcfedmheblbdnaaGreatDoor.K.intBytes (hdI (V.rowAt l i))).length)])).tk.set
 0
 (1,
 lo.length +
 (YtcfedmheblbdnaaGreatDoor.K.rb
 (YtcfedmheblbdnaaGreatDoor.K.intBytes (hdI (V.rowAt l i)))).length))))))
 else none)
 none)
 none)
 none)
 (K (AX.exit 0) (Env.mk 43 [(4, AV.lg 0 1 lo)])
 (St.mk [] ((1, lo.length) :: xt))) := by kernel_rfl

theorem en_out (F : Nat) (lo : List (List AV)) (st : St) :
 ((Cont.block 0 (Cont.then (g7_r0.run F (g7.leaveK Fun.done)) (g7.leaveK Fun.done))) (.exit 0) (Env.mk 43 [(4, .lg 0 1 lo)]) st : Ans) =
 some (Fin.ret (AV.tup [AV.lg 0 1 lo, AV.bool true]), st) := by kernel_rfl

theorem ren_round (F m : Nat) (K : Cont) (z : Bool) (lo l : List (List AV)) (i : Int) (xt : List (Nat × Nat)) :
 (loopRun (f8_l0.run F) [0, 4, 5] K m.succ (Env.mk 63 [(0, .ns z 3 l), (4, .lg 0 1 lo), (5, .int .i64 i)]) ⟨[], (1, lo.length) :: xt⟩ : Ans) =
 branch (AV.bool (decide (i < (↑l.length : Int))))
 (branch (AV.bool (inR l i))
 (branch (AV.bool ((LD.one (LT.int IntKind.i64)).is (List.drop 0 (V.rowAt l i))))
 (branch (AV.bool (YtcfedmheblbdnaaGreatDoor.K.i64B (hdI (List.drop 0 (V.rowAt l i)))))
 (if
 some (1, lo.length) = some (1, lo.length) ∧
 (lo.length +
 (YtcfedmheblbdnaaGreatDoor.K.rb
 (YtcfedmheblbdnaaGreatDoor.K.intBytes (hdI (List.drop 0 (V.rowAt l i))))).length) *
 1 ≤
 140737488355328 then
 branch (AV.bool (inR l i))
 (branch (AV.bool ((LD.one (LT.int IntKind.i64)).is (List.drop 0 (V.rowAt l i))))
 (branch (AV.bool (hdI (List.drop 0 (V.rowAt l i)) == (1 : Int)))
 (branch (AV.bool (inR l i))
 (branch (AV.bool ((LD.one (LT.int IntKind.i64)).is (List.drop 1 (V.rowAt l i))))
 (branch (AV.bool (YtcfedmheblbdnaaGreatDoor.K.i64B (hdI (List.drop 1 (V.rowAt l i)))))
 (if
 some
 (1,
 lo.length +
 (YtcfedmheblbdnaaGreatDoor.K.rb
 (YtcfedmheblbdnaaGreatDoor.K.intBytes
 (hdI (List.drop 0 (V.rowAt l i))))).length) =
 some
 (1,
 (lo ++
 YtcfedmheblbdnaaGreatDoor.K.rb
 (YtcfedmheblbdnaaGreatDoor.K.intBytes
 (hdI (List.drop 0 (V.rowAt l i))))).length) ∧
 ((lo ++
 YtcfedmheblbdnaaGreatDoor.K.rb
 (YtcfedmheblbdnaaGreatDoor.K.intBytes
 (hdI (List.drop 0 (V.rowAt l i))))).length +
 (YtcfedmheblbdnaaGreatDoor.K.rb
 (YtcfedmheblbdnaaGreatDoor.K.intBytes
 (hdI (List.drop 1 (V.rowAt l i))))).length) *
 1 ≤
 140737488355328 then
 branch (AV.bool (inR l i))
 (branch (AV.bool ((LD.one (LT.int IntKind.i64)).is (List.drop 0 (V.rowAt l i))))
 (branch (AV.bool (hdI (List.drop 0 (V.rowAt l i)) == (3 : Int)))
 (branch (AV.bool (inR l i))
 (branch (AV.bool ((LD.one LT.str).is (List.drop 2 (V.rowAt l i))))
 (branch
 (AV.bool
 (YtcfedmheblbdnaaGreatDoor.K.shortS (hdS (List.drop 2 (V.rowAt l i)))))
 (if
 some
 (1,
 (lo ++
 YtcfedmheblbdnaaGreatDoor.K.rb
 (YtcfedmheblbdnaaGreatDoor.K.intBytes
 (hdI (List.drop 0 (V.rowAt l i))))).length +
 (YtcfedmheblbdnaaGreatDoor.K.rb
 (YtcfedmheblbdnaaGreatDoor.K.intBytes
 (hdI (List.drop 1 (V.rowAt l i))))).length) =
 some
 (1,
 (lo ++
 YtcfedmheblbdnaaGreatDoor.K.rb
 (YtcfedmheblbdnaaGreatDoor.K.intBytes
 (hdI (List.drop 0 (V.rowAt l i)))) ++
 YtcfedmheblbdnaaGreatDoor.K.rb
 (YtcfedmheblbdnaaGreatDoor.K.intBytes
 (hdI (List.drop 1 (V.rowAt l i))))).length) ∧
 ((lo ++
 YtcfedmheblbdnaaGreatDoor.K.rb
 (YtcfedmheblbdnaaGreatDoor.K.intBytes
 (hdI (List.drop 0 (V.rowAt l i)))) ++
 YtcfedmheblbdnaaGreatDoor.K.rb
 (YtcfedmheblbdnaaGreatDoor.K.intBytes
 (hdI (List.drop 1 (V.rowAt l i))))).length +
 (YtcfedmheblbdnaaGreatDoor.K.rb
 (YtcfedmheblbdnaaGreatDoor.K.textBytes
 (hdS (List.drop 2 (V.rowAt l i))))).length) *
 1 ≤
 140737488355328 then
 loopRun (f8_l0.run F) [0, 4, 5] K m
 (Env.mk 63
 [(0, AV.ns z 3 l),
 (4,
 AV.lg 0 1
 (lo ++
 YtcfedmheblbdnaaGreatDoor.K.rb
 (YtcfedmheblbdnaaGreatDoor.K.intBytes
 (hdI (List.drop 0 (V.rowAt l i)))) ++
 YtcfedmheblbdnaaGreatDoor.K.rb
 (YtcfedmheblbdnaaGreatDoor.K.intBytes
 (hdI (List.drop 1 (V.rowAt l i)))) ++
 YtcfedmheblbdnaaGreatDoor.K.rb
 (YtcfedmheblbdnaaGreatDoor.K.textBytes
 (hdS (List.drop 2 (V.rowAt l i)))))),
 (5, AV.int IntKind.i64 (IntKind.i64.wrap (i + (1 : Int))))])
 (St.mk []
 ((St.mk []
 ((St.mk []
 ((St.mk []
 ((St.mk []
 ((St.mk []
 ((1, lo.length) :: xt ++
 [(1,
 (YtcfedmheblbdnaaGreatDoor.K.intBytes
 (hdI
 (List.drop 0
 (V.rowAt l
 i)))).length)])).tk.set
 0
 (1,
 lo.length +
 (YtcfedmheblbdnaaGreatDoor.K.rb
 (YtcfedmheblbdnaaGreatDoor.K.intBytes
 (hdI
 (List.drop 0
 (V.rowAt l i))))).length))).tk ++
 [(1,
 (YtcfedmheblbdnaaGreatDoor.K.intBytes
 (hdI
 (List.drop 1
 (V.rowAt l i)))).length)])).tk.set
 0
 (1,
 (lo ++
 YtcfedmheblbdnaaGreatDoor.K.rb
 (YtcfedmheblbdnaaGreatDoor.K.intBytes
 (hdI
 (List.drop 0 (V.rowAt l i))))).length +
 (YtcfedmheblbdnaaGreatDoor.K.rb
 (YtcfedmheblbdnaaGreatDoor.K.intBytes
 (hdI
 (List.drop 1
 (V.rowAt l i))))).length))).tk ++
 [(1,
 (YtcfedmheblbdnaaGreatDoor.K.textBytes
 (hdS (List.drop 2 (V.rowAt l i)))).length)])).tk.set
 0
 (1,
 (lo ++
 YtcfedmheblbdnaaGreatDoor.K.rb
 (YtcfedmheblbdnaaGreatDoor.K.intBytes
 (hdI (List.drop 0 (V.rowAt l i)))) ++
 YtcfedmheblbdnaaGreatDoor.K.rb
 (YtcfedmheblbdnaaGreatDoor.K.intBytes
 (hdI (List.drop 1 (V.rowAt l i))))).length +
 (YtcfedmheblbdnaaGreatDoor.K.rb
 (YtcfedmheblbdnaaGreatDoor.K.textBytes
 (hdS (List.drop 2 (V.rowAt l i))))).length)))
 else none)
 none)
 none)
 none)
 (loopRun (f8_l0.run F) [0, 4, 5] K m
 (Env.mk 63
 [(0, AV.ns z 3 l),
 (4,
 AV.lg 0 1
 (lo ++
 YtcfedmheblbdnaaGreatDoor.K.rb
 (YtcfedmheblbdnaaGreatDoor.K.intBytes
 (hdI (List.drop 0 (V.rowAt l i)))) ++
 YtcfedmheblbdnaaGreatDoor.K.rb
 (YtcfedmheblbdnaaGreatDoor.K.intBytes
 (hdI (List.drop 1 (V.rowAt l i)))))),
 (5, AV.int IntKind.i64 (IntKind.i64.wrap (i + (1 : Int))))])
 (St.mk []
 ((St.mk []
 ((St.mk []
 ((St.mk []
 ((1, lo.length) :: xt ++
 [(1,
 (YtcfedmheblbdnaaGreatDoor.K.intBytes
 (hdI
 (List.drop 0
 (V.rowAt l i)))).length)])).tk.set
 0
 (1,
 lo.length +
 (YtcfedmheblbdnaaGreatDoor.K.rb
 (YtcfedmheblbdnaaGreatDoor.K.intBytes
 (hdI (List.drop 0 (V.rowAt l i))))).length))).tk ++
 [(1,
 (YtcfedmheblbdnaaGreatDoor.K.intBytes
 (hdI (List.drop 1 (V.rowAt l i)))).length)])).tk.set
 0
 (1,
 (lo ++
 YtcfedmheblbdnaaGreatDoor.K.rb
 (YtcfedmheblbdnaaGreatDoor.K.intBytes
 (hdI (List.drop 0 (V.rowAt l i))))).length +
 (YtcfedmheblbdnaaGreatDoor.K.rb
 (YtcfedmheblbdnaaGreatDoor.K.intBytes
 (hdI (List.drop 1 (V.rowAt l i))))).length)))))
 none)
 none
 else none)
 none)
 none)
 none)
 (branch (AV.bool (inR l i))
 (branch (AV.bool ((LD.one (LT.int IntKind.i64)).is (List.drop 0 (V.rowAt l i))))
 (branch (AV.bool (hdI (List.drop 0 (V.rowAt l i)) == (2 : Int)))
 (branch (AV.bool (inR l i))
 (branch (AV.bool ((LD.one (LT.int IntKind.i64)).is (List.drop 1 (V.rowAt l i))))
 (branch (AV.bool (YtcfedmheblbdnaaGreatDoor.K.i64B (hdI (List.drop 1 (V.rowAt l i)))))
 (if
 some
 (1,
 lo.length +
 (YtcfedmheblbdnaaGreatDoor.K.rb
 (YtcfedmheblbdnaaGreatDoor.K.intBytes
 (hdI (List.drop 0 (V.rowAt l i))))).length) =
 some
 (1,
 (lo ++
 YtcfedmheblbdnaaGreatDoor.K.rb
 (YtcfedmheblbdnaaGreatDoor.K.intBytes
 (hdI (List.drop 0 (V.rowAt l i))))).length) ∧
 ((lo ++
 YtcfedmheblbdnaaGreatDoor.K.rb
 (YtcfedmheblbdnaaGreatDoor.K.intBytes
 (hdI (List.drop 0 (V.rowAt l i))))).length +
 (YtcfedmheblbdnaaGreatDoor.K.rb
 (YtcfedmheblbdnaaGreatDoor.K.intBytes
 (hdI (List.drop 1 (V.rowAt l i))))).length) *
 1 ≤
 140737488355328 then
 branch (AV.bool (inR l i))
 (branch (AV.bool ((LD.one (LT.int IntKind.i64)).is (List.drop 0 (V.rowAt l i))))
 (branch (AV.bool (hdI (List.drop 0 (V.rowAt l i)) == (3 : Int)))
 (branch (AV.bool (inR l i))
 (branch (AV.bool ((LD.one LT.str).is (List.drop 2 (V.rowAt l i))))
 (branch
 (AV.bool
 (YtcfedmheblbdnaaGreatDoor.K.shortS
 (hdS (List.drop 2 (V.rowAt l i)))))
 (if
 some
 (1,
 (lo ++
 YtcfedmheblbdnaaGreatDoor.K.rb
 (YtcfedmheblbdnaaGreatDoor.K.intBytes
 (hdI (List.drop 0 (V.rowAt l i))))).length +
 (YtcfedmheblbdnaaGreatDoor.K.rb
 (YtcfedmheblbdnaaGreatDoor.K.intBytes
 (hdI (List.drop 1 (V.rowAt l i))))).length) =
 some
 (1,
 (lo ++
 YtcfedmheblbdnaaGreatDoor.K.rb
 (YtcfedmheblbdnaaGreatDoor.K.intBytes
 (hdI (List.drop 0 (V.rowAt l i)))) ++
 YtcfedmheblbdnaaGreatDoor.K.rb
 (YtcfedmheblbdnaaGreatDoor.K.intBytes
 (hdI (List.drop 1 (V.rowAt l i))))).length) ∧
 ((lo ++
 YtcfedmheblbdnaaGreatDoor.K.rb
 (YtcfedmheblbdnaaGreatDoor.K.intBytes
 (hdI (List.drop 0 (V.rowAt l i)))) ++
 YtcfedmheblbdnaaGreatDoor.K.rb
 (YtcfedmheblbdnaaGreatDoor.K.intBytes
 (hdI (List.drop 1 (V.rowAt l i))))).length +
 (YtcfedmheblbdnaaGreatDoor.K.rb
 (YtcfedmheblbdnaaGreatDoor.K.textBytes
 (hdS (List.drop 2 (V.rowAt l i))))).length) *
 1 ≤
 140737488355328 then
 loopRun (f8_l0.run F) [0, 4, 5] K m
 (Env.mk 63
 [(0, AV.ns z 3 l),
 (4,
 AV.lg 0 1
 (lo ++
 YtcfedmheblbdnaaGreatDoor.K.rb
 (YtcfedmheblbdnaaGreatDoor.K.intBytes
 (hdI (List.drop 0 (V.rowAt l i)))) ++
 YtcfedmheblbdnaaGreatDoor.K.rb
 (YtcfedmheblbdnaaGreatDoor.K.intBytes
 (hdI (List.drop 1 (V.rowAt l i)))) ++
 YtcfedmheblbdnaaGreatDoor.K.rb
 (YtcfedmheblbdnaaGreatDoor.K.textBytes
 (hdS (List.drop 2 (V.rowAt l i)))))),
 (5, AV.int IntKind.i64 (IntKind.i64.wrap (i + (1 : Int))))])
 (St.mk []
 ((St.mk []
 ((St.mk []
 ((St.mk []
 ((St.mk []
 ((St.mk []
 ((1, lo.length) :: xt ++
 [(1,
 (YtcfedmheblbdnaaGreatDoor.K.intBytes
 (hdI
 (List.drop 0
 (V.rowAt l
 i)))).length)])).tk.set
 0
 (1,
 lo.length +
 (YtcfedmheblbdnaaGreatDoor.K.rb
 (YtcfedmheblbdnaaGreatDoor.K.intBytes
 (hdI
 (List.drop 0
 (V.rowAt l
 i))))).length))).tk ++
 [(1,
 (YtcfedmheblbdnaaGreatDoor.K.intBytes
 (hdI
 (List.drop 1
 (V.rowAt l i)))).length)])).tk.set
 0
 (1,
 (lo ++
 YtcfedmheblbdnaaGreatDoor.K.rb
 (YtcfedmheblbdnaaGreatDoor.K.intBytes
 (hdI
 (List.drop 0
 (V.rowAt l i))))).length +
 (YtcfedmheblbdnaaGreatDoor.K.rb
 (YtcfedmheblbdnaaGreatDoor.K.intBytes
 (hdI
 (List.drop 1
 (V.rowAt l i))))).length))).tk ++
 [(1,
 (YtcfedmheblbdnaaGreatDoor.K.textBytes
 (hdS
 (List.drop 2
 (V.rowAt l i)))).length)])).tk.set
 0
 (1,
 (lo ++
 YtcfedmheblbdnaaGreatDoor.K.rb
 (YtcfedmheblbdnaaGreatDoor.K.intBytes
 (hdI (List.drop 0 (V.rowAt l i)))) ++
 YtcfedmheblbdnaaGreatDoor.K.rb
 (YtcfedmheblbdnaaGreatDoor.K.intBytes
 (hdI (List.drop 1 (V.rowAt l i))))).length +
 (YtcfedmheblbdnaaGreatDoor.K.rb
 (YtcfedmheblbdnaaGreatDoor.K.textBytes
 (hdS (List.drop 2 (V.rowAt l i))))).length)))
 else none)
 none)
 none)
 none)
 (loopRun (f8_l0.run F) [0, 4, 5] K m
 (Env.mk 63
 [(0, AV.ns z 3 l),
 (4,
 AV.lg 0 1
 (lo ++
 YtcfedmheblbdnaaGreatDoor.K.rb
 (YtcfedmheblbdnaaGreatDoor.K.intBytes
 (hdI (List.drop 0 (V.rowAt l i)))) ++
 YtcfedmheblbdnaaGreatDoor.K.rb
 (YtcfedmheblbdnaaGreatDoor.K.intBytes
 (hdI (List.drop 1 (V.rowAt l i)))))),
 (5, AV.int IntKind.i64 (IntKind.i64.wrap (i + (1 : Int))))])
 (St.mk []
 ((St.mk []
 ((St.mk []
 ((St.mk []
 ((1, lo.length) :: xt ++
 [(1,
 (YtcfedmheblbdnaaGreatDoor.K.intBytes
 (hdI
 (List.drop 0
 (V.rowAt l i)))).length)])).tk.set
 0
 (1,
 lo.length +
 (YtcfedmheblbdnaaGreatDoor.K.rb
 (YtcfedmheblbdnaaGreatDoor.K.intBytes
 (hdI
 (List.drop 0
 (V.rowAt l i))))).length))).tk ++
 [(1,
 (YtcfedmheblbdnaaGreatDoor.K.intBytes
 (hdI (List.drop 1 (V.rowAt l i)))).length)])).tk.set
 0
 (1,
 (lo ++
 YtcfedmheblbdnaaGreatDoor.K.rb
 (YtcfedmheblbdnaaGreatDoor.K.intBytes
 (hdI (List.drop 0 (V.rowAt l i))))).length +
 (YtcfedmheblbdnaaGreatDoor.K.rb
 (YtcfedmheblbdnaaGreatDoor.K.intBytes
 (hdI (List.drop 1 (V.rowAt l i))))).length)))))
 none)
 none
 else none)
 none)
 none)
 none)
 (branch (AV.bool (inR l i))
 (branch (AV.bool ((LD.one (LT.int IntKind.i64)).is (List.drop 0 (V.rowAt l i))))
 (branch (AV.bool (hdI (List.drop 0 (V.rowAt l i)) == (3 : Int)))
 (branch (AV.bool (inR l i))
 (branch (AV.bool ((LD.one LT.str).is (List.drop 2 (V.rowAt l i))))
 (branch
 (AV.bool
 (YtcfedmheblbdnaaGreatDoor.K.shortS (hdS (List.drop 2 (V.rowAt l i)))))
 (if
 some
 (1,
 lo.length +
 (YtcfedmheblbdnaaGreatDoor.K.rb
 (YtcfedmheblbdnaaGreatDoor.K.intBytes
 (hdI (List.drop 0 (V.rowAt l i))))).length) =
 some
 (1,
 (lo ++
 YtcfedmheblbdnaaGreatDoor.K.rb
 (YtcfedmheblbdnaaGreatDoor.K.intBytes
 (hdI (List.drop 0 (V.rowAt l i))))).length) ∧
 ((lo ++
 YtcfedmheblbdnaaGreatDoor.K.rb
 (YtcfedmheblbdnaaGreatDoor.K.intBytes
 (hdI (List.drop 0 (V.rowAt l i))))).length +
 (YtcfedmheblbdnaaGreatDoor.K.rb
 (YtcfedmheblbdnaaGreatDoor.K.textBytes
 (hdS (List.drop 2 (V.rowAt l i))))).length) *
 1 ≤
 140737488355328 then
 loopRun (f8_l0.run F) [0, 4, 5] K m
 (Env.mk 63
 [(0, AV.ns z 3 l),
 (4,
 AV.lg 0 1
 (lo ++
 YtcfedmheblbdnaaGreatDoor.K.rb
 (YtcfedmheblbdnaaGreatDoor.K.intBytes
 (hdI (List.drop 0 (V.rowAt l i)))) ++
 YtcfedmheblbdnaaGreatDoor.K.rb
 (YtcfedmheblbdnaaGreatDoor.K.textBytes
 (hdS (List.drop 2 (V.rowAt l i)))))),
 (5, AV.int IntKind.i64 (IntKind.i64.wrap (i + (1 : Int))))])
 (St.mk []
 ((St.mk []
 ((St.mk []
 ((St.mk []
 ((1, lo.length) :: xt ++
 [(1,
 (YtcfedmheblbdnaaGreatDoor.K.intBytes
 (hdI
 (List.drop 0
 (V.rowAt l i)))).length)])).tk.set
 0
 (1,
 lo.length +
 (YtcfedmheblbdnaaGreatDoor.K.rb
 (YtcfedmheblbdnaaGreatDoor.K.intBytes
 (hdI
 (List.drop 0
 (V.rowAt l i))))).length))).tk ++
 [(1,
 (YtcfedmheblbdnaaGreatDoor.K.textBytes
 (hdS (List.drop 2 (V.rowAt l i)))).length)])).tk.set
 0
 (1,
 (lo ++
 YtcfedmheblbdnaaGreatDoor.K.rb
 (YtcfedmheblbdnaaGreatDoor.K.intBytes
 (hdI (List.drop 0 (V.rowAt l i))))).length +
 (YtcfedmheblbdnaaGreatDoor.K.rb
 (YtcfedmheblbdnaaGreatDoor.K.textBytes
 (hdS (List.drop 2 (V.rowAt l i))))).length)))
 else none)
 none)
 none)
 none)
 (loopRun (f8_l0.run F) [0, 4, 5] K m
 (Env.mk 63
 [(0, AV.ns z 3 l),
 (4,
 AV.lg 0 1
 (lo ++
 YtcfedmheblbdnaaGreatDoor.K.rb
 (YtcfedmheblbdnaaGreatDoor.K.intBytes
 (hdI (List.drop 0 (V.rowAt l i)))))),
 (5, AV.int IntKind.i64 (IntKind.i64.wrap (i + (1 : Int))))])
 (St.mk []
 ((St.mk []
 ((1, lo.length) :: xt ++
 [(1,
 (YtcfedmheblbdnaaGreatDoor.K.intBytes
 (hdI (List.drop 0 (V.rowAt l i)))).length)])).tk.set
 0
 (1,
 lo.length +
 (YtcfedmheblbdnaaGreatDoor.K.rb
 (YtcfedmheblbdnaaGreatDoor.K.intBytes
 (hdI (List.drop 0 (V.rowAt l i))))).length)))))
 none)
 none))
 none)
 none))
 none)
 none
 else none)
 none)
 none)
 none)
 (K (AX.exit 0) (Env.mk 63 [(4, AV.lg 0 1 lo)])
 (St.mk [] ((1, lo.length) :: xt))) := by kernel_rfl

theorem ren_out (F : Nat) (lo : List (List AV)) (st : St) :
 ((Cont.block 0 (Cont.then (f8_r0.run F (f8.leaveK Fun.done)) (f8.leaveK Fun.done))) (.exit 0) (Env.mk 63 [(4, .lg 0 1 lo)]) st : Ans) =
 some (Fin.ret (AV.tup [AV.lg 0 1 lo, AV.bool true]), st) := by kernel_rfl

end Go.Proofs.YtcfedmheblbdnaaGreatDoor.V

/- Values: rows as bytes: both sides' Encode, as callees. -/
set_option linter.unusedVariables false
namespace Go.Proofs.YtcfedmheblbdnaaGreatDoor.V
open Go Go.V Go.RowKit

def encVa (v : Va) : List Nat := K.intBytes v.k ++ bif v.k == 1 then K.intBytes v.n else bif v.k == 2 then K.intBytes v.n else bif v.k == 3 then K.textBytes v.s else []
def encVs : List Va → List Nat
  | [] => []
  | v :: l => encVa v ++ encVs l
/-- A value that can be written. -/
def fitsW (v : Va) : Prop := K.i64B v.k = true ∧ K.i64B v.n = true ∧ v.s.size ≤ 1000
theorem encVa_len (v : Va) (h : v.s.size ≤ 1000) : (encVa v).length ≤ 1020 := by
  have h1 := K.intBytes_length v.k
  have h2 := K.intBytes_length v.n
  have h3 := K.intBytes_length (v.s.size : Int)
  unfold encVa
  rw [List.length_append]
  cases v.k == 1 with
  | true => simp only [cond_true]; omega
  | false =>
    cases v.k == 2 with
    | true => simp only [cond_true, cond_false]; omega
    | false =>
      cases v.k == 3 with
      | true => simp only [cond_true, cond_false, K.textBytes, List.length_append, K.own_length]; omega
      | false => simp only [cond_false, List.length_nil]; omega
theorem en_step (F m : Nat) (K' : Cont) (z : Bool) (lo l : List (List AV)) (i : Nat) (hi : i < l.length) (hv : isRow tVa l[i] = true) (hw : fitsW (vaR l[i])) (hn : l.length ≤ 1000) (hlo : lo.length ≤ 1000000) (xt : List (Nat × Nat)) :
    ∃ xt', loopRun (g7_l0.run F) [4, 13, 14, 15] K' m.succ (Env.mk 43 [(4, .lg 0 1 lo), (13, .ns z 3 l), (14, .int .i64 (l.length : Int)), (15, .int .i64 (i : Nat))]) ⟨[], (1, lo.length) :: xt⟩
      = loopRun (g7_l0.run F) [4, 13, 14, 15] K' m (Env.mk 43 [(4, .lg 0 1 (lo ++ K.rb (encVa (vaR l[i])))), (13, .ns z 3 l), (14, .int .i64 (l.length : Int)), (15, .int .i64 ((i + 1 : Nat) : Int))]) ⟨[], (1, (lo ++ K.rb (encVa (vaR l[i]))).length) :: xt'⟩ := by
  obtain ⟨hk, hn', hs⟩ := hw
  have h1 := K.intBytes_length (vaR l[i]).k
  have h2 := K.intBytes_length (vaR l[i]).n
  have h3 := K.intBytes_length ((vaR l[i]).s.size : Int)
  have ht : (K.textBytes (vaR l[i]).s).length ≤ 1010 := by rw [K.textBytes, List.length_append, K.own_length]; omega
  rw [en_round, branch_of (decide_eq_true (by omega)), branch_of (inR_nat hi), rowAt_nat hi, branch_of (show (LD.agg [LT.int IntKind.i64, LT.int IntKind.i64, LT.str]).is l[i] = true from isVa hv), wrap_n hi hn]
  rw [show hdI l[i] = (vaR l[i]).k from rfl, show hdI l[i].tail = (vaR l[i]).n from rfl, show hdS l[i].tail.tail = (vaR l[i]).s from rfl]
  generalize vaR l[i] = v at *
  obtain ⟨k, n, s⟩ := v
  simp only at hk hn' hs h1 h2 h3 ht ⊢
  rw [branch_of hk, if_pos ⟨trivial, by rw [K.rb_length]; omega⟩]
  unfold encVa
  cases c1 : k == 1 with
  | true =>
    rw [branch_true, branch_of hn', if_pos ⟨by rw [List.length_append], by rw [List.length_append, K.rb_length, K.rb_length]; omega⟩]
    refine ⟨xt ++ [(1, (K.intBytes k).length), (1, (K.intBytes n).length)], ?_⟩
    simp only [cond_true, K.rb_append, List.append_assoc, List.cons_append, List.set_cons_zero, List.length_append, List.nil_append, Nat.add_assoc]
  | false =>
    rw [branch_false]
    cases c2 : k == 2 with
    | true =>
      rw [branch_true, branch_of hn', if_pos ⟨by rw [List.length_append], by rw [List.length_append, K.rb_length, K.rb_length]; omega⟩]
      refine ⟨xt ++ [(1, (K.intBytes k).length), (1, (K.intBytes n).length)], ?_⟩
      simp only [cond_true, cond_false, K.rb_append, List.append_assoc, List.cons_append, List.set_cons_zero, List.length_append, List.nil_append, Nat.add_assoc]
    | false =>
      rw [branch_false]
      cases c3 : k == 3 with
      | true =>
        rw [branch_true, branch_of (show K.shortS s = true from decide_eq_true (by omega)), if_pos ⟨by rw [List.length_append], by rw [List.length_append, K.rb_length, K.rb_length]; omega⟩]
        refine ⟨xt ++ [(1, (K.intBytes k).length), (1, (K.textBytes s).length)], ?_⟩
        simp only [cond_true, cond_false, K.rb_append, List.append_assoc, List.cons_append, List.set_cons_zero, List.length_append, List.nil_append, Nat.add_assoc]
      | false =>
        rw [branch_false]
        refine ⟨xt ++ [(1, (K.intBytes k).length)], ?_⟩
        simp only [cond_false, List.append_nil, List.cons_append, List.set_cons_zero, List.length_append]
theorem is_k {r : List AV} (h : isRow tVa r = true) : (LD.one (LT.int IntKind.i64)).is (List.drop 0 r) = true := by rw [isRow_eq h]; rfl
theorem is_n {r : List AV} (h : isRow tVa r = true) : (LD.one (LT.int IntKind.i64)).is (List.drop 1 r) = true := by rw [isRow_eq h]; rfl
theorem ren_step (F m : Nat) (K' : Cont) (z : Bool) (lo l : List (List AV)) (i : Nat) (hi : i < l.length) (hv : isRow tVa l[i] = true) (hw : fitsW (vaR l[i])) (hn : l.length ≤ 1000) (hlo : lo.length ≤ 1000000) (xt : List (Nat × Nat)) :
    ∃ xt', loopRun (f8_l0.run F) [0, 4, 5] K' m.succ (Env.mk 63 [(0, .ns z 3 l), (4, .lg 0 1 lo), (5, .int .i64 (i : Nat))]) ⟨[], (1, lo.length) :: xt⟩
      = loopRun (f8_l0.run F) [0, 4, 5] K' m (Env.mk 63 [(0, .ns z 3 l), (4, .lg 0 1 (lo ++ K.rb (encVa (vaR l[i])))), (5, .int .i64 ((i + 1 : Nat) : Int))]) ⟨[], (1, (lo ++ K.rb (encVa (vaR l[i]))).length) :: xt'⟩ := by
  obtain ⟨hk, hn', hs⟩ := hw
  have h1 := K.intBytes_length (vaR l[i]).k
  have h2 := K.intBytes_length (vaR l[i]).n
  have h3 := K.intBytes_length ((vaR l[i]).s.size : Int)
  have ht : (K.textBytes (vaR l[i]).s).length ≤ 1010 := by rw [K.textBytes, List.length_append, K.own_length]; omega
  have hin := inR_nat hi
  have q0 := is_k hv
  have q1 := is_n hv
  have q2 := isVaS hv
  have e0 : hdI (List.drop 0 l[i]) = (vaR l[i]).k := rfl
  have e1 : hdI (List.drop 1 l[i]) = (vaR l[i]).n := by rw [isRow_va hv]; rfl
  have e2 : hdS (List.drop 2 l[i]) = (vaR l[i]).s := by rw [isRow_va hv]; rfl
  rw [ren_round, branch_of (decide_eq_true (by omega)), branch_of hin, rowAt_nat hi, branch_of q0, wrap_n hi hn, e0, e1, e2]
  generalize vaR l[i] = v at *
  obtain ⟨k, n, s⟩ := v
  simp only at hk hn' hs h1 h2 h3 ht ⊢
  rw [branch_of hk, if_pos ⟨trivial, by rw [K.rb_length]; omega⟩, branch_of hin, branch_of q0]
  unfold encVa
  cases c1 : k == 1 with
  | true =>
    have c3 : (k == 3) = false := by rw [beq_iff_eq] at c1; rw [c1]; rfl
    rw [branch_true, branch_of hin, branch_of q1, branch_of hn', if_pos ⟨by rw [List.length_append], by rw [List.length_append, K.rb_length, K.rb_length]; omega⟩, branch_of hin, branch_of q0, branch_not c3]
    refine ⟨xt ++ [(1, (K.intBytes k).length), (1, (K.intBytes n).length)], ?_⟩
    simp only [cond_true, K.rb_append, List.append_assoc, List.cons_append, List.set_cons_zero, List.length_append, List.nil_append, Nat.add_assoc]
  | false =>
    rw [branch_false, branch_of hin, branch_of q0]
    cases c2 : k == 2 with
    | true =>
      have c3 : (k == 3) = false := by rw [beq_iff_eq] at c2; rw [c2]; rfl
      rw [branch_true, branch_of hin, branch_of q1, branch_of hn', if_pos ⟨by rw [List.length_append], by rw [List.length_append, K.rb_length, K.rb_length]; omega⟩, branch_of hin, branch_of q0, branch_not c3]
      refine ⟨xt ++ [(1, (K.intBytes k).length), (1, (K.intBytes n).length)], ?_⟩
      simp only [cond_true, cond_false, K.rb_append, List.append_assoc, List.cons_append, List.set_cons_zero, List.length_append, List.nil_append, Nat.add_assoc]
    | false =>
      rw [branch_false, branch_of hin, branch_of q0]
      cases c3 : k == 3 with
      | true =>
        rw [branch_true, branch_of hin, branch_of q2, branch_of (show K.shortS s = true from decide_eq_true (by omega)), if_pos ⟨by rw [List.length_append], by rw [List.length_append, K.rb_length, K.rb_length]; omega⟩]
        refine ⟨xt ++ [(1, (K.intBytes k).length), (1, (K.textBytes s).length)], ?_⟩
        simp only [cond_true, cond_false, K.rb_append, List.append_assoc, List.cons_append, List.set_cons_zero, List.length_append, List.nil_append, Nat.add_assoc]
      | false =>
        rw [branch_false]
        refine ⟨xt ++ [(1, (K.intBytes k).length)], ?_⟩
        simp only [cond_false, List.append_nil, List.cons_append, List.set_cons_zero, List.length_append]
theorem en_all (F : Nat) (z : Bool) (l : List (List AV)) (hl : okV l = true) (hw : ∀ v ∈ rowsV l, fitsW v) (hn : l.length ≤ 8) : ∀ (k i m : Nat) (lo : List (List AV)) (xt : List (Nat × Nat)), i + k = l.length → k < m → lo.length ≤ 10 + i * 1020 →
    ∃ st', loopRun (g7_l0.run F) [4, 13, 14, 15] (Cont.block 0 (Cont.then (g7_r0.run F (g7.leaveK Fun.done)) (g7.leaveK Fun.done))) m (Env.mk 43 [(4, .lg 0 1 lo), (13, .ns z 3 l), (14, .int .i64 (l.length : Int)), (15, .int .i64 (i : Nat))]) ⟨[], (1, lo.length) :: xt⟩
      = some (.ret (.tup [.lg 0 1 (lo ++ K.rb (encVs (rowsV (l.drop i)))), .bool true]), st')
  | k, i, 0, lo, xt, _, h, _ => by omega
  | 0, i, m + 1, lo, xt, h1, h3, h4 => by
    rw [show m + 1 = m.succ from rfl, en_round, branch_not (decide_eq_false (by omega)), en_out, rowsV_end (by omega)]
    exact ⟨_, by rw [encVs, K.rb, List.map_nil, List.append_nil]⟩
  | k + 1, i, m + 1, lo, xt, h1, h3, h4 => by
    have hi : i < l.length := by omega
    have hv := okV_at hl hi
    have hwv : fitsW (vaR l[i]) := hw _ (List.mem_map.mpr ⟨_, List.getElem_mem hi, rfl⟩)
    obtain ⟨xt', h⟩ := en_step F m (Cont.block 0 (Cont.then (g7_r0.run F (g7.leaveK Fun.done)) (g7.leaveK Fun.done))) z lo l i hi hv hwv (by omega) (by omega) xt
    have hlen := encVa_len (vaR l[i]) hwv.2.2
    obtain ⟨st', h'⟩ := en_all F z l hl hw hn k (i + 1) m (lo ++ K.rb (encVa (vaR l[i]))) xt' (by omega) (by omega) (by rw [List.length_append, K.rb_length]; omega)
    refine ⟨st', ?_⟩
    rw [show m + 1 = m.succ from rfl, h, h', rowsV_drop hi, encVs, K.rb_append, List.append_assoc]
theorem ren_all (F : Nat) (z : Bool) (l : List (List AV)) (hl : okV l = true) (hw : ∀ v ∈ rowsV l, fitsW v) (hn : l.length ≤ 8) : ∀ (k i m : Nat) (lo : List (List AV)) (xt : List (Nat × Nat)), i + k = l.length → k < m → lo.length ≤ 10 + i * 1020 →
    ∃ st', loopRun (f8_l0.run F) [0, 4, 5] (Cont.block 0 (Cont.then (f8_r0.run F (f8.leaveK Fun.done)) (f8.leaveK Fun.done))) m (Env.mk 63 [(0, .ns z 3 l), (4, .lg 0 1 lo), (5, .int .i64 (i : Nat))]) ⟨[], (1, lo.length) :: xt⟩
      = some (.ret (.tup [.lg 0 1 (lo ++ K.rb (encVs (rowsV (l.drop i)))), .bool true]), st')
  | k, i, 0, lo, xt, _, h, _ => by omega
  | 0, i, m + 1, lo, xt, h1, h3, h4 => by
    rw [show m + 1 = m.succ from rfl, ren_round, branch_not (decide_eq_false (by omega)), ren_out, rowsV_end (by omega)]
    exact ⟨_, by rw [encVs, K.rb, List.map_nil, List.append_nil]⟩
  | k + 1, i, m + 1, lo, xt, h1, h3, h4 => by
    have hi : i < l.length := by omega
    have hv := okV_at hl hi
    have hwv : fitsW (vaR l[i]) := hw _ (List.mem_map.mpr ⟨_, List.getElem_mem hi, rfl⟩)
    obtain ⟨xt', h⟩ := ren_step F m (Cont.block 0 (Cont.then (f8_r0.run F (f8.leaveK Fun.done)) (f8.leaveK Fun.done))) z lo l i hi hv hwv (by omega) (by omega) xt
    have hlen := encVa_len (vaR l[i]) hwv.2.2
    obtain ⟨st', h'⟩ := ren_all F z l hl hw hn k (i + 1) m (lo ++ K.rb (encVa (vaR l[i]))) xt' (by omega) (by omega) (by rw [List.length_append, K.rb_length]; omega)
    refine ⟨st', ?_⟩
    rw [show m + 1 = m.succ from rfl, h, h', rowsV_drop hi, encVs, K.rb_append, List.append_assoc]
/-- A row as bytes. -/
def encR (l : List (List AV)) : List Nat := K.intBytes (l.length : Int) ++ encVs (rowsV l)
def encB (l : List (List AV)) : List (List AV) := bif rrV l then K.rb (encR l) else []
noncomputable def okE2 (a : Bool × List (List AV)) : Bool := okV a.2 && cdec (∀ v ∈ rowsV a.2, fitsW v)
theorem okE2_iff {a : Bool × List (List AV)} : okE2 a = true ↔ okV a.2 = true ∧ ∀ v ∈ rowsV a.2, fitsW v := by
  simp only [okE2, Bool.and_eq_true, cdec_iff]
theorem en_spec (z : Bool) (l : List (List AV)) (h1 : okV l = true) (h2 : ∀ v ∈ rowsV l, fitsW v) : ∃ r F r' st', frz r' = r ∧ Scoped 0 0 r ∧ g7.run F [.ns z 3 l] ⟨[], []⟩ = some (.ret r', st') ∧ ∀ g w v, Rel g w r v → Rel g w (.tup [.ns (!rrV l) 1 (encB l), .bool (rrV l)]) v := by
  refine ⟨bif rrV l then .tup [.sl 1 false (K.rb (encR l)), .bool true] else .tup [.nilsl, .bool false], 1001, ?_⟩
  rw [en_run, branch_of h1]
  unfold encB
  cases hr : rrV l with
  | false => exact ⟨_, _, rfl, ⟨trivial, trivial, trivial⟩, rfl, fun _ _ _ => tup2_mono fun _ => ns_of_nil⟩
  | true =>
    have h8 : l.length ≤ 8 := by
      simp only [rrV, Bool.and_eq_true, decide_eq_true_eq] at hr; omega
    obtain ⟨st', h⟩ := en_all 1001 z l h1 h2 h8 l.length 0 1001 (K.rb (K.intBytes (l.length : Int))) [] (by omega) (by omega) (by rw [K.rb_length]; have := K.intBytes_length (l.length : Int); omega)
    rw [K.rb_length] at h
    rw [Bool.not_true, branch_false, branch_of (by simp [K.i64B]; omega)]
    refine ⟨_, _, ?_, ⟨K.scoped_rb 0 0 (encR l), trivial, trivial⟩, h, fun _ _ _ => tup2_mono fun _ => ns_of_sl⟩
    rw [List.drop_zero, ← K.rb_append]; rfl
theorem ren_spec (z : Bool) (l : List (List AV)) (h1 : okV l = true) (h2 : ∀ v ∈ rowsV l, fitsW v) : ∃ r F r' st', frz r' = r ∧ Scoped 0 0 r ∧ f8.run F [.ns z 3 l] ⟨[], []⟩ = some (.ret r', st') ∧ ∀ g w v, Rel g w r v → Rel g w (.tup [.ns (!rrV l) 1 (encB l), .bool (rrV l)]) v := by
  refine ⟨bif rrV l then .tup [.sl 1 false (K.rb (encR l)), .bool true] else .tup [.nilsl, .bool false], 1001, ?_⟩
  rw [ren_run, branch_of h1]
  unfold encB
  cases hr : rrV l with
  | false => exact ⟨_, _, rfl, ⟨trivial, trivial, trivial⟩, rfl, fun _ _ _ => tup2_mono fun _ => ns_of_nil⟩
  | true =>
    have h8 : l.length ≤ 8 := by
      simp only [rrV, Bool.and_eq_true, decide_eq_true_eq] at hr; omega
    obtain ⟨st', h⟩ := ren_all 1001 z l h1 h2 h8 l.length 0 1001 (K.rb (K.intBytes (l.length : Int))) [] (by omega) (by omega) (by rw [K.rb_length]; have := K.intBytes_length (l.length : Int); omega)
    rw [K.rb_length] at h
    rw [Bool.not_true, branch_false, branch_of (by simp [K.i64B]; omega)]
    refine ⟨_, _, ?_, ⟨K.scoped_rb 0 0 (encR l), trivial, trivial⟩, h, fun _ _ _ => tup2_mono fun _ => ns_of_sl⟩
    rw [List.drop_zero, ← K.rb_append]; rfl
noncomputable def p7 : POrc Tryz.prog := g7.seenAs dec1r (fun a => [nsA a]) dec1r_enc okE2 (fun a => .tup [.ns (!rrV a.2) 1 (encB a.2), .bool (rrV a.2)]) fun a h => by
  obtain ⟨h1, h2⟩ := okE2_iff.mp h
  exact ⟨⟨scoped_okV h1, trivial⟩, en_spec a.1 a.2 h1 h2⟩
noncomputable def p8 : POrc Tryz.prog := f8.seenAs dec1r (fun a => [nsA a]) dec1r_enc okE2 (fun a => .tup [.ns (!rrV a.2) 1 (encB a.2), .bool (rrV a.2)]) fun a h => by
  obtain ⟨h1, h2⟩ := okE2_iff.mp h
  exact ⟨⟨scoped_okV h1, trivial⟩, ren_spec a.1 a.2 h1 h2⟩
end Go.Proofs.YtcfedmheblbdnaaGreatDoor.V

/- Values: the same bytes, as a callee. -/
set_option linter.unusedVariables false
namespace Go.Proofs.YtcfedmheblbdnaaGreatDoor.V
open Go Go.V Go.RowKit

def isU8 (r : List AV) : Bool := (LD.one (LT.int IntKind.u8)).is r
noncomputable def sameB (l r : List (List AV)) : Bool := cdec (l.map hdI = r.map hdI)
def nsB (x : AV) : Option (Bool × List (List AV)) :=
  match x with
  | .ns z s l => match Nat.beq s 1 with
    | true => some (z, l)
    | false => none
  | _ => none
def nsBA (a : Bool × List (List AV)) : AV := .ns a.1 1 a.2
theorem nsB_some {x : AV} {a : Bool × List (List AV)} (h : nsB x = some a) : x = nsBA a := by
  unfold nsB at h
  split at h
  · split at h
    · rename_i h1; cases h; rw [Nat.eq_of_beq_eq_true h1]; rfl
    · cases h
  · cases h
def dec1y : List AV → Option (Bool × List (List AV))
  | [x] => nsB x
  | _ => none
theorem dec1y_enc : ∀ l a, dec1y l = some a → l = [nsBA a] := by
  intro l a h
  unfold dec1y at h
  split at h
  · rw [nsB_some h]
  · cases h
def dec2y : List AV → Option Ro2
  | [x, y] => match nsB x with
    | some a => match nsB y with
      | some b => some (a, b)
      | none => none
    | none => none
  | _ => none
theorem dec2y_enc : ∀ l a, dec2y l = some a → l = [nsBA a.1, nsBA a.2] := by
  intro l a h
  unfold dec2y at h
  split at h
  · split at h
    · rename_i h1
      split at h
      · rename_i h2; cases h; rw [nsB_some h1, nsB_some h2]
      · cases h
    · cases h
  · cases h
theorem sb_all (F : Nat) (z y : Bool) (l r : List (List AV)) (st : St) (hl : l.all isU8 = true) (hr : r.all isU8 = true) (hn : l.length ≤ 100000) (he : l.length = r.length) : ∀ (k i m : Nat), i + k = l.length → k < m →
    loopRun (f17_l0.run F) [0, 1, 5] (Cont.block 0 (Cont.then (f17_r0.run F (f17.leaveK Fun.done)) (f17.leaveK Fun.done))) m (Env.mk 26 [(0, .ns z 1 l), (1, .ns y 1 r), (5, .int .i64 (i : Nat))]) st = some (.ret (.bool (sameB (l.drop i) (r.drop i))), st)
  | k, i, 0, _, h => by omega
  | 0, i, m + 1, h1, h3 => by
    rw [show m + 1 = m.succ from rfl, sb_round, branch_not (decide_eq_false (by omega)), sb_out, List.drop_eq_nil_of_le (by omega), List.drop_eq_nil_of_le (by omega), show sameB [] [] = true by rw [sameB, cdec_iff]]
  | k + 1, i, m + 1, h1, h3 => by
    have hi : i < l.length := by omega
    have hc : i < r.length := by omega
    rw [show m + 1 = m.succ from rfl, sb_round, branch_of (decide_eq_true (by omega)), branch_of (inR_nat hi), rowAt_nat hi, branch_of (show (LD.one (LT.int IntKind.u8)).is l[i] = true from List.all_eq_true.mp hl _ (List.getElem_mem hi)),
      branch_of (inR_nat hc), rowAt_nat hc, branch_of (show (LD.one (LT.int IntKind.u8)).is r[i] = true from List.all_eq_true.mp hr _ (List.getElem_mem hc))]
    have e : sameB (l.drop i) (r.drop i) = (hdI l[i] == hdI r[i] && sameB (l.drop (i + 1)) (r.drop (i + 1))) := by
      rw [Bool.eq_iff_iff, Bool.and_eq_true, sameB, sameB, cdec_iff, cdec_iff, beq_iff_eq, List.drop_eq_getElem_cons hi, List.drop_eq_getElem_cons hc, List.map_cons, List.map_cons, List.cons.injEq]
    rw [e, show (hdI l[i] != hdI r[i]) = !(hdI l[i] == hdI r[i]) from rfl]
    cases hq : hdI l[i] == hdI r[i] with
    | false => exact sb_ret F false st
    | true => rw [Bool.not_true, branch_false, wrapS (by omega) (by omega), show ((i : Int) + 1) = ((i + 1 : Nat) : Int) by omega, Bool.true_and]; exact sb_all F z y l r st hl hr hn he k (i + 1) m (by omega) (by omega)
noncomputable def ok2y (a : Ro2) : Bool := cdec (a.1.2.all isU8 = true ∧ a.2.2.all isU8 = true ∧ a.1.2.length ≤ 100000)
noncomputable def p17 : POrc Tryz.prog := f17.pureIf dec2y (fun a => [nsBA a.1, nsBA a.2]) dec2y_enc ok2y (fun a => .bool (sameB a.1.2 a.2.2)) (fun a _ => ⟨rfl, fun _ _ => trivial⟩) fun a h => ⟨100001, fun st => by
  obtain ⟨⟨z, l⟩, ⟨y, r⟩⟩ := a
  obtain ⟨h1, h2, h3⟩ := cdec_iff.mp h
  simp only at h1 h2 h3
  show f17.run 100001 [.ns z 1 l, .ns y 1 r] st = some (.ret (.bool (sameB l r)), st)
  rw [sb_run]
  by_cases he : l.length = r.length
  · rw [branch_not (by simp [he])]
    exact sb_all 100001 z y l r st h1 h2 h3 he l.length 0 100001 (by omega) (by omega)
  · have : ¬ (l.length : Int) = r.length := by omega
    rw [branch_of (by simpa using this), show sameB l r = false by
      rw [Bool.eq_false_iff, ne_eq, sameB, cdec_iff]
      intro e
      exact he (by have := congrArg List.length e; simpa using this)]⟩
theorem rb_u8 (l : List Nat) : (K.rb l).all isU8 = true := by
  simp only [K.rb, List.all_map, List.all_eq_true]
  intro x _; rfl
end Go.Proofs.YtcfedmheblbdnaaGreatDoor.V

/- The functions' pieces, as told by gen.py. -/
set_option linter.unusedVariables false
set_option maxRecDepth 20000
namespace Go.Proofs.YtcfedmheblbdnaaGreatDoor.V
open Go Go.V Go.RowKit


/-! ### 28: interlock/value.read (47); results 2; slots: 0 r, 1 r, 3 v -/
noncomputable def f28_b : Sim Tryz.prog :=
 (.seq (.live [0, 2] (.region 0 [
 ⟨(opAlloc (some 2) 40 (.agg #[(.int .i64 0), (.int .i64 0), (.string ⟨#[]⟩)]) ze40 0 "value.go:97" #[]).op, none⟩
 ] (by kernel_rfl)))
 (.seq (.live [0, 2, 3] (.region 1 [
 ⟨(opMove (some 4) (.tmp 0) 47 "value.go:98" #[]).op, none⟩,
 ⟨opCall (K.q27).orc (some 5) [(.tmp 4), (.const (Value.int IntKind.i64 3))] #[47, 3] 3 "value.go:98" #[{ on := 0, ground := Ground.data }], none⟩,
 ⟨(opBuild (some 6) 40 #[(.int .i64 0), (.int .i64 0), (.string ⟨#[]⟩)] [(0, 0, 1, (.tmp 5))] ze40 (by kernel_rfl) 40 "value.go:98" #[{ on := 1, ground := Ground.data }]).op, none⟩,
 ⟨(opAlloc (some 3) 40 (.agg #[(.int .i64 0), (.int .i64 0), (.string ⟨#[]⟩)]) ze40 0 "value.go:98" #[]).op, none⟩,
 ⟨(opStore none 40 (.tmp 3) (.tmp 6) 3 sz40 0 "value.go:98" #[{ on := 3, ground := Ground.data }, { on := 2, ground := Ground.data }, { on := 1, ground := Ground.chain }, { on := 0, ground := Ground.phase }, { on := 1, ground := Ground.phase }, { on := 2, ground := Ground.phase }, { on := 3, ground := Ground.phase }]).op, none⟩
 ] (by kernel_rfl)))
 (.seq (.seq (.live [0, 2, 3, 8] (.region 2 [
 ⟨(opFieldAddr (some 7) 40 (.tmp 3) 0 0 1 false fl40_0 (by decide) 0 "value.go:99" #[]).op, none⟩,
 ⟨(opLoadT (.one (.int .i64)) (some 8) 3 (.tmp 7) (.int .i64) Tryz.underlying3 1 sz3 (by kernel_rfl) 3 "value.go:99" #[{ on := 0, ground := Ground.data }]).op, none⟩
 ] (by kernel_rfl)))
 (.block 0 (.seq (.seq (.live [0, 2, 3, 8, 9] (.region 3 [
 ⟨(opBin (some 10) .eql 3 (.tmp 8) (.const (Value.int IntKind.i64 1)) 3 4 "value.go:100" #[]).op, none⟩,
 ⟨(opAssign (some 9) (.tmp 10) 4 "value.go:100" #[{ on := 0, ground := Ground.data }]).op, none⟩
 ] (by kernel_rfl)))
 (.cond (.tmp 9)
 .skip
 (.live [0, 2, 3, 8, 9] (.region 4 [
 ⟨(opBin (some 11) .eql 3 (.tmp 8) (.const (Value.int IntKind.i64 2)) 3 4 "value.go:100" #[]).op, none⟩,
 ⟨(opAssign (some 9) (.tmp 11) 4 "value.go:100" #[{ on := 0, ground := Ground.data }]).op, none⟩
 ] (by kernel_rfl)))))
 (.cond (.tmp 9)
 (.live [2, 3] (.region 5 [
 ⟨(opMove (some 12) (.tmp 0) 47 "value.go:101" #[]).op, none⟩,
 ⟨opCall (K.q52).orc (some 13) [(.tmp 12)] #[47] 3 "value.go:101" #[{ on := 0, ground := Ground.data }], none⟩,
 ⟨(opFieldAddr (some 14) 40 (.tmp 3) 1 1 1 false fl40_1 (by decide) 0 "value.go:101" #[{ on := 0, ground := Ground.phase }, { on := 1, ground := Ground.phase }]).op, none⟩,
 ⟨(opStore none 3 (.tmp 14) (.tmp 13) 1 sz3 0 "value.go:101" #[{ on := 2, ground := Ground.data }, { on := 1, ground := Ground.data }, { on := 1, ground := Ground.chain }, { on := 0, ground := Ground.phase }, { on := 1, ground := Ground.phase }]).op, none⟩
 ] (by kernel_rfl)))
 (.seq (.live [0, 2, 3, 15] (.region 6 [
 ⟨(opBin (some 16) .eql 3 (.tmp 8) (.const (Value.int IntKind.i64 3)) 3 4 "value.go:102" #[]).op, none⟩,
 ⟨(opAssign (some 15) (.tmp 16) 4 "value.go:102" #[{ on := 0, ground := Ground.data }]).op, none⟩
 ] (by kernel_rfl)))
 (.cond (.tmp 15)
 (.live [2, 3] (.region 7 [
 ⟨(opMove (some 17) (.tmp 0) 47 "value.go:103" #[]).op, none⟩,
 ⟨opCall (K.q54).orc (some 18) [(.tmp 17)] #[47] 9 "value.go:103" #[{ on := 0, ground := Ground.data }], none⟩,
 ⟨(opFieldAddr (some 19) 40 (.tmp 3) 2 2 1 false fl40_2 (by decide) 0 "value.go:103" #[{ on := 0, ground := Ground.phase }, { on := 1, ground := Ground.phase }]).op, none⟩,
 ⟨(opStore none 9 (.tmp 19) (.tmp 18) 1 sz9 0 "value.go:103" #[{ on := 2, ground := Ground.data }, { on := 1, ground := Ground.data }, { on := 1, ground := Ground.chain }, { on := 0, ground := Ground.phase }, { on := 1, ground := Ground.phase }]).op, none⟩
 ] (by kernel_rfl)))
 .skip))))))
 (.seq (.live [2] (.region 8 [
 ⟨(opLoadT (.agg [(.int .i64), (.int .i64), .str]) (some 20) 40 (.tmp 3) d40 ud40 3 sz40 (by kernel_rfl) 40 "value.go:105" #[]).op, none⟩,
 ⟨(opStore none 40 (.tmp 2) (.tmp 20) 3 sz40 0 "value.go:105" #[{ on := 0, ground := Ground.data }, { on := 0, ground := Ground.phase }]).op, none⟩
 ] (by kernel_rfl)))
 (.live [2] .ret)))))

noncomputable def f28 : Fun Tryz.prog where
 id := 28
 fn := Tryz.f28
 hf := Tryz.func28
 hname := by kernel_rfl
 body := f28_b
 hbody := by kernel_rfl
 res := [rCell 2 40 d40 ud40 3 sz40]
 hres := by kernel_rfl
 n := 21
 hn := by kernel_rfl

end Go.Proofs.YtcfedmheblbdnaaGreatDoor.V

/- What the functions' runs come to; the right sides were printed by a tool, Lean checks them. -/
set_option linter.unusedVariables false
set_option maxRecDepth 100000
namespace Go.Proofs.YtcfedmheblbdnaaGreatDoor.V
open Go Go.V Go.RowKit

theorem rv_run (f : Bool) (l : List (List AV)) :
 (f28.run 0 [.ptr 0 0] ⟨[.cells [.sl 1 f l, .bool false]], []⟩ : Ans) =
 branch (AV.bool (K.fit (Br.sl f l)))
 (onSome (K.getC (3 : Int) (nR l))
 (some
 (Fin.ret (AV.agg [AV.int IntKind.i64 (0 : Int), AV.int IntKind.i64 (0 : Int), AV.str (ByteArray.mk #[])]),
 St.mk
 [Ob.cells [AV.nilsl, AV.bool true],
 Ob.cells [AV.int IntKind.i64 (0 : Int), AV.int IntKind.i64 (0 : Int), AV.str (ByteArray.mk #[])],
 Ob.cells [AV.int IntKind.i64 (0 : Int), AV.int IntKind.i64 (0 : Int), AV.str (ByteArray.mk #[])]]
 []))
 fun (o : Int × Nat) =>
 branch (AV.bool (o.fst == (1 : Int)))
 (branch (AV.bool (K.fit (Br.sl f (List.drop o.snd l))))
 (onSome (K.getN (nR (List.drop o.snd l)))
 (some
 (Fin.ret (AV.agg [AV.int IntKind.i64 o.fst, AV.int IntKind.i64 (0 : Int), AV.str (ByteArray.mk #[])]),
 St.mk
 [Ob.cells [AV.nilsl, AV.bool true],
 Ob.cells [AV.int IntKind.i64 o.fst, AV.int IntKind.i64 (0 : Int), AV.str (ByteArray.mk #[])],
 Ob.cells [AV.int IntKind.i64 o.fst, AV.int IntKind.i64 (0 : Int), AV.str (ByteArray.mk #[])]]
 []))
 fun (o_1 : Int × Nat) =>
 some
 (Fin.ret (AV.agg [AV.int IntKind.i64 o.fst, AV.int IntKind.i64 o_1.fst, AV.str (ByteArray.mk #[])]),
 St.mk
 [Ob.cells [AV.sl 1 f (List.drop o_1.snd (List.drop o.snd l)), AV.bool false],
 Ob.cells [AV.int IntKind.i64 o.fst, AV.int IntKind.i64 o_1.fst, AV.str (ByteArray.mk #[])],
 Ob.cells [AV.int IntKind.i64 o.fst, AV.int IntKind.i64 o_1.fst, AV.str (ByteArray.mk #[])]]
 []))
 none)
 (branch (AV.bool (o.fst == (2 : Int)))
 (branch (AV.bool (K.fit (Br.sl f (List.drop o.snd l))))
 (onSome (K.getN (nR (List.drop o.snd l)))
 (some
 (Fin.ret (AV.agg [AV.int IntKind.i64 o.fst, AV.int IntKind.i64 (0 : Int), AV.str (ByteArray.mk #[])]),
 St.mk
 [Ob.cells [AV.nilsl, AV.bool true],
 Ob.cells [AV.int IntKind.i64 o.fst, AV.int IntKind.i64 (0 : Int), AV.str (ByteArray.mk #[])],
 Ob.cells [AV.int IntKind.i64 o.fst, AV.int IntKind.i64 (0 : Int), AV.str (ByteArray.mk #[])]]
 []))
 fun (o_1 : Int × Nat) =>
 some
 (Fin.ret (AV.agg [AV.int IntKind.i64 o.fst, AV.int IntKind.i64 o_1.fst, AV.str (ByteArray.mk #[])]),
 St.mk
 [Ob.cells [AV.sl 1 f (List.drop o_1.snd (List.drop o.snd l)), AV.bool false],
 Ob.cells [AV.int IntKind.i64 o.fst, AV.int IntKind.i64 o_1.fst, AV.str (ByteArray.mk #[])],
 Ob.cells [AV.int IntKind.i64 o.fst, AV.int IntKind.i64 o_1.fst, AV.str (ByteArray.mk #[])]]
 []))
 none)
 (branch (AV.bool (o.fst == (3 : Int)))
 (branch (AV.bool (K.fit (Br.sl f (List.drop o.snd l))))
 (onSome (K.getS (nR (List.drop o.snd l)))
 (some
 (Fin.ret (AV.agg [AV.int IntKind.i64 o.fst, AV.int IntKind.i64 (0 : Int), AV.str K.noText]),
 St.mk
 [Ob.cells [AV.nilsl, AV.bool true],
 Ob.cells [AV.int IntKind.i64 o.fst, AV.int IntKind.i64 (0 : Int), AV.str K.noText],
 Ob.cells [AV.int IntKind.i64 o.fst, AV.int IntKind.i64 (0 : Int), AV.str K.noText]]
 []))
 fun (o_1 : ByteArray × Nat) =>
 some
 (Fin.ret (AV.agg [AV.int IntKind.i64 o.fst, AV.int IntKind.i64 (0 : Int), AV.str o_1.fst]),
 St.mk
 [Ob.cells [AV.sl 1 f (List.drop o_1.snd (List.drop o.snd l)), AV.bool false],
 Ob.cells [AV.int IntKind.i64 o.fst, AV.int IntKind.i64 (0 : Int), AV.str o_1.fst],
 Ob.cells [AV.int IntKind.i64 o.fst, AV.int IntKind.i64 (0 : Int), AV.str o_1.fst]]
 []))
 none)
 (some
 (Fin.ret (AV.agg [AV.int IntKind.i64 o.fst, AV.int IntKind.i64 (0 : Int), AV.str (ByteArray.mk #[])]),
 St.mk
 [Ob.cells [AV.sl 1 f (List.drop o.snd l), AV.bool false],
 Ob.cells [AV.int IntKind.i64 o.fst, AV.int IntKind.i64 (0 : Int), AV.str (ByteArray.mk #[])],
 Ob.cells [AV.int IntKind.i64 o.fst, AV.int IntKind.i64 (0 : Int), AV.str (ByteArray.mk #[])]]
 [])))))
 none := by kernel_rfl

theorem rv_nil (b : Bool) :
 (f28.run 0 [.ptr 0 0] ⟨[.cells [.nilsl, .bool b]], []⟩ : Ans) =
 some
 (Fin.ret (AV.agg [AV.int IntKind.i64 (0 : Int), AV.int IntKind.i64 (0 : Int), AV.str (ByteArray.mk #[])]),
 St.mk
 [Ob.cells [AV.nilsl, AV.bool true],
 Ob.cells [AV.int IntKind.i64 (0 : Int), AV.int IntKind.i64 (0 : Int), AV.str (ByteArray.mk #[])],
 Ob.cells [AV.int IntKind.i64 (0 : Int), AV.int IntKind.i64 (0 : Int), AV.str (ByteArray.mk #[])]]
 []) := by kernel_rfl

end Go.Proofs.YtcfedmheblbdnaaGreatDoor.V

/- Values: the next value of a reader. -/
set_option linter.unusedVariables false
namespace Go.Proofs.YtcfedmheblbdnaaGreatDoor.V
open Go Go.V Go.RowKit

theorem near_okR {l : List (List AV)} (h : okR l = true) : ScopedR 0 0 l := by
  rw [okR_rows h]; exact K.scoped_rb 0 0 (nR l)
def RdOk : K.Rd → Prop
  | .nil _ => True
  | .sl f b l => okR l = true
def RdA : ADT K.Rd where
  m := 1
  p := 0
  hp := by omega
  obs r := [.cells r.cells]
  Ok := RdOk
  len _ := rfl
  near r h o ho := by
    cases r with
    | nil b => simp at ho; subst ho; exact ⟨trivial, trivial, trivial⟩
    | sl f b l => simp at ho; subst ho; exact ⟨near_okR h, trivial, trivial⟩
  inj x y hx hy h := by
    simp only [List.cons.injEq, Ob.cells.injEq, and_true] at h
    cases x <;> cases y <;> simp [K.Rd.cells] at h ⊢
    · exact h
    · exact ⟨h.1.1, h.2, h.1.2⟩
theorem one_obj {f : Fun Tryz.prog} {F : Nat} {x y : K.Rd} {args : List AV} {r : AV} {xs : List Ob} (hrun : f.run F args ⟨[.cells x.cells], []⟩ = some (.ret r, ⟨.cells y.cells :: xs, []⟩)) (hx : RdOk x) (hy : RdOk y) (ha : NearL 1 args) (hr : Near 1 (frz r)) (tk : List (Nat × Nat)) :
    CallsTo Tryz.prog f.id args ⟨[.cells x.cells], tk⟩ (.ret (frz r), ⟨[.cells y.cells], tk⟩) := by
  have hd : RdA.Here ⟨[.cells x.cells], tk⟩ 0 x := ⟨hx, by show 0 + 1 ≤ 1; omega, by
    have := ADT.obl_zero RdA (x := x) hx
    rw [ADT.obl_eq] at this
    rw [this]; rfl⟩
  have := ADT.placed (A := RdA) (f := f) (x := x) (y := y) (args0 := args) (r := r) (xs := xs) hrun hy ha hr hd
  have hpl : RdA.pl ⟨[.cells x.cells], tk⟩ 0 y = ⟨[.cells y.cells], tk⟩ := by
    rw [ADT.pl, ADT.obl_zero RdA hy]; rfl
  rw [hpl, show sh 0 = fun k => k from funext fun k => Nat.zero_add k, renL_id, ren_id] at this
  exact this

def noS : ByteArray := ByteArray.mk #[]
/-- The next value; what is left, if nothing was wrong. -/
def rdV (l : List (List AV)) : Va × Option (List (List AV)) :=
  match K.getC 3 (nR l) with
  | none => (⟨0, 0, noS⟩, none)
  | some o => bif o.1 == 1 || o.1 == 2 then
      match K.getN (nR (l.drop o.2)) with
      | none => (⟨o.1, 0, noS⟩, none)
      | some p => (⟨o.1, p.1, noS⟩, some ((l.drop o.2).drop p.2))
    else bif o.1 == 3 then
      match K.getS (nR (l.drop o.2)) with
      | none => (⟨o.1, 0, noS⟩, none)
      | some p => (⟨o.1, 0, p.1⟩, some ((l.drop o.2).drop p.2))
    else (⟨o.1, 0, noS⟩, some (l.drop o.2))
def rdX (f : Bool) (x : Option (List (List AV))) : K.Rd :=
  match x with
  | some l => .sl f false l
  | none => .nil true
theorem fit_drop {f : Bool} {l : List (List AV)} (h : K.fit (.sl f l) = true) (n : Nat) : K.fit (.sl f (l.drop n)) = true := by
  obtain ⟨h1, h2⟩ := K.fit_spec h
  simp only [K.fit, Br.list, Bool.and_eq_true] at h1 h2 ⊢
  exact ⟨okR_drop h1 n, by simp; omega⟩
theorem rdV_ok {f : Bool} {l : List (List AV)} (h : K.fit (.sl f l) = true) : RdOk (rdX f (rdV l).2) := by
  have h1 := (K.fit_spec h).1
  unfold rdV
  cases K.getC 3 (nR l) with
  | none => trivial
  | some o =>
    simp only
    cases o.1 == 1 || o.1 == 2 with
    | true =>
      simp only [cond_true]
      cases K.getN (nR (l.drop o.2)) with
      | none => trivial
      | some p => exact okR_drop (okR_drop h1 _) _
    | false =>
      simp only [cond_false]
      cases o.1 == 3 with
      | true =>
        simp only [cond_true]
        cases K.getS (nR (l.drop o.2)) with
        | none => trivial
        | some p => exact okR_drop (okR_drop h1 _) _
      | false => exact okR_drop h1 _
theorem rv_eq {f : Bool} {l : List (List AV)} (h : K.fit (.sl f l) = true) : ∃ xs, f28.run 0 [.ptr 0 0] ⟨[.cells (K.Rd.sl f false l).cells], []⟩ = some (.ret (rdV l).1.av, ⟨.cells (rdX f (rdV l).2).cells :: xs, []⟩) := by
  have e := rv_run f l
  show ∃ xs, f28.run 0 [.ptr 0 0] ⟨[.cells [.sl 1 f l, .bool false]], []⟩ = _
  rw [e, branch_of h]
  unfold rdV
  cases K.getC 3 (nR l) with
  | none => exact ⟨_, rfl⟩
  | some o =>
    simp only [onSome]
    rw [branch_of (fit_drop h _)]
    cases h1 : o.1 == 1 with
    | true =>
      rw [Bool.true_or, cond_true, branch_true]
      cases K.getN (nR (l.drop o.2)) <;> exact ⟨_, rfl⟩
    | false =>
      rw [Bool.false_or, branch_false]
      cases h2 : o.1 == 2 with
      | true =>
        rw [branch_true]
        cases K.getN (nR (l.drop o.2)) <;> exact ⟨_, rfl⟩
      | false =>
        rw [branch_false]
        cases h3 : o.1 == 3 with
        | true =>
          rw [branch_true, branch_of (fit_drop h _)]
          cases K.getS (nR (l.drop o.2)) <;> exact ⟨_, rfl⟩
        | false => exact ⟨_, rfl⟩
/-- The next value of a reader that is the one object. -/
noncomputable def s28 : OrcS Tryz.prog := f28.by'
  (fun args st k => match args with
    | [.ptr 0 0] => match st.objs with
      | [.cells cs] => match K.rdOf cs with
        | some (.nil b) => k (.ret (Va.mk 0 0 noS).av) ⟨[.cells [.nilsl, .bool true]], st.tk⟩
        | some (.sl f false l) => match K.fit (.sl f l) with
          | true => k (.ret (rdV l).1.av) ⟨[.cells (rdX f (rdV l).2).cells], st.tk⟩
          | false => none
        | _ => none
      | _ => none
    | _ => none)
  fun args st k fin h => by
    obtain ⟨objs, tk⟩ := st
    simp only at h
    split at h
    · split at h
      · split at h
        · rename_i h1
          have hc := K.rdOf_eq h1
          subst hc
          exact ⟨_, _, h, one_obj (x := .nil _) (y := .nil true) (rv_nil _) trivial trivial ⟨by show 0 < 1; omega, trivial⟩ ⟨trivial, trivial, trivial, trivial⟩ tk⟩
        · rename_i f l h1
          have hc := K.rdOf_eq h1
          subst hc
          split at h
          · rename_i hf
            obtain ⟨xs, hr⟩ := rv_eq hf
            exact ⟨_, _, h, one_obj (x := .sl f false l) (y := rdX f (rdV l).2) hr (K.fit_spec hf).1 (rdV_ok hf) ⟨by show 0 < 1; omega, trivial⟩ ⟨trivial, trivial, trivial, trivial⟩ tk⟩
          · cases h
        · cases h
      · cases h
    · cases h
noncomputable def p11n : POrc Tryz.prog := p11.asNs 3
noncomputable def p12n : POrc Tryz.prog := p12.asNs 3
end Go.Proofs.YtcfedmheblbdnaaGreatDoor.V

/- The functions' pieces, as told by gen.py. -/
set_option linter.unusedVariables false
set_option maxRecDepth 20000
namespace Go.Proofs.YtcfedmheblbdnaaGreatDoor.V
open Go Go.V Go.RowKit


/-! ### 9: interlock/value.Decode (25); results 2, 3; slots: 0 b, 1 b, 4 r, 5 out, 6 n, 7 v -/
/-- A loop's round; at its head live: 4 r, 5 out, 6 n -/
noncomputable def f9_l0 : Sim Tryz.prog :=
 (.seq (.seq (.live [4, 5, 6, 13] (.region 4 [
 ⟨(opMove (some 12) (.tmp 6) 3 "value.go:112" #[]).op, none⟩,
 ⟨(opBin (some 13) .gtr 3 (.tmp 12) (.const (Value.int IntKind.i64 0)) 3 4 "value.go:112" #[{ on := 0, ground := Ground.data }]).op, none⟩
 ] (by kernel_rfl)))
 (.cond (.tmp 13)
 .skip
 (.live [4, 5] (.exit 0))))
 (.seq (.block 1 (.seq (.live [4, 5, 6, 7] (.items 6 [
 .one ((opMove (some 16) (.tmp 4) 47 "value.go:113" #[]).op),
 .one (opCall (s28).orc (some 17) [(.tmp 16)] #[47] 40 "value.go:113" #[{ on := 0, ground := Ground.data }]),
 .two (op2Box 7 40 (.agg #[(.int .i64 0), (.int .i64 0), (.string ⟨#[]⟩)]) ze40 (.tmp 17) (by rfl) 3 sz40 (by kernel_rfl) 31 (by rfl) 0 0 "value.go:113" "value.go:113" #[] #[{ on := 2, ground := Ground.data }, { on := 1, ground := Ground.data }, { on := 1, ground := Ground.chain }, { on := 0, ground := Ground.phase }, { on := 1, ground := Ground.phase }, { on := 2, ground := Ground.phase }])
 ]))
 (.live [4, 5, 6] (.region 7 [
 ⟨(opMove (some 18) (.tmp 5) 23 "value.go:114" #[]).op, none⟩,
 ⟨(opLoadT (.agg [(.int .i64), (.int .i64), .str]) (some 19) 40 (.tmp 7) d40 ud40 3 sz40 (by kernel_rfl) 40 "value.go:114" #[]).op, none⟩,
 ⟨(opBuildSlice (some 20) 23 1 [(0, (.tmp 19))] 40 3 32 (.agg #[(.int .i64 0), (.int .i64 0), (.string ⟨#[]⟩)]) el23 (by kernel_rfl) (by decide) 23 "value.go:114" #[{ on := 1, ground := Ground.data }]).op, none⟩,
 ⟨(opAppend (some 21) (.tmp 18) (.tmp 20) 23 23 40 3 32 (.agg #[(.int .i64 0), (.int .i64 0), (.string ⟨#[]⟩)]) el23 (.slice 40) Tryz.underlying23 rfl 23 "value.go:114" #[{ on := 0, ground := Ground.data }, { on := 2, ground := Ground.data }]).op, none⟩,
 ⟨(opAssign (some 5) (.tmp 21) 23 "value.go:114" #[{ on := 3, ground := Ground.data }, { on := 3, ground := Ground.chain }, { on := 0, ground := Ground.phase }, { on := 1, ground := Ground.phase }, { on := 2, ground := Ground.phase }, { on := 3, ground := Ground.phase }]).op, none⟩
 ] (by kernel_rfl)))))
 (.live [4, 5, 6] (.region 5 [
 ⟨(opMove (some 14) (.tmp 6) 3 "value.go:112" #[]).op, none⟩,
 ⟨(opBin (some 15) .sub 3 (.tmp 14) (.const (Value.int IntKind.i64 1)) 3 3 "value.go:112" #[{ on := 0, ground := Ground.data }]).op, none⟩,
 ⟨(opAssign (some 6) (.tmp 15) 3 "value.go:112" #[{ on := 1, ground := Ground.data }, { on := 0, ground := Ground.phase }, { on := 1, ground := Ground.phase }]).op, none⟩
 ] (by kernel_rfl)))))

/-- What follows a loop. -/
noncomputable def f9_r0 : Sim Tryz.prog :=
 (.seq (.seq (.live [5, 29] (.region 8 [
 ⟨(opMove (some 22) (.tmp 4) 47 "value.go:116" #[]).op, none⟩,
 ⟨opCall (K.f29.orc 0) (some 23) [(.tmp 22)] #[47] 4 "value.go:116" #[{ on := 0, ground := Ground.data }], none⟩,
 ⟨(opNot (some 24) 4 (.tmp 23) 4 "value.go:116" #[{ on := 1, ground := Ground.data }]).op, none⟩,
 ⟨(opMove (some 25) (.tmp 24) 4 "value.go:116" #[{ on := 2, ground := Ground.data }, { on := 1, ground := Ground.chain }]).op, none⟩,
 ⟨(opMove (some 26) (.tmp 5) 23 "value.go:116" #[{ on := 3, ground := Ground.guard }]).op, (some (3, 25, false))⟩,
 ⟨(opCallP p11n (some 27) [(.tmp 26)] #[23] 4 "value.go:116" #[{ on := 4, ground := Ground.data }, { on := 3, ground := Ground.chain }, { on := 3, ground := Ground.guard }]).op, (some (3, 25, false))⟩,
 ⟨(opNot (some 28) 4 (.tmp 27) 4 "value.go:116" #[{ on := 5, ground := Ground.data }, { on := 3, ground := Ground.guard }]).op, (some (3, 25, false))⟩,
 ⟨(opPick (some 29) (.tmp 25) (.const (Value.bool true)) (.tmp 28) 4 "value.go:116" #[{ on := 3, ground := Ground.data }, { on := 6, ground := Ground.data }]).op, none⟩
 ] (by kernel_rfl)))
 (.cond (.tmp 29)
 (.seq (.live [2, 3] (.region 9 [
 ⟨(opAssign (some 2) (.const (Value.slice none 0 0)) 23 "value.go:117" #[]).op, none⟩,
 ⟨(opAssign (some 3) (.const (Value.bool false)) 4 "value.go:117" #[{ on := 0, ground := Ground.chain }, { on := 0, ground := Ground.phase }]).op, none⟩
 ] (by kernel_rfl)))
 (.live [2, 3] .ret))
 .skip))
 (.seq (.live [2, 3] (.region 10 [
 ⟨(opMove (some 30) (.tmp 5) 23 "value.go:119" #[]).op, none⟩,
 ⟨(opAssign (some 2) (.tmp 30) 23 "value.go:119" #[{ on := 0, ground := Ground.data }, { on := 0, ground := Ground.phase }]).op, none⟩,
 ⟨(opAssign (some 3) (.const (Value.bool true)) 4 "value.go:119" #[{ on := 1, ground := Ground.chain }, { on := 0, ground := Ground.phase }, { on := 1, ground := Ground.phase }]).op, none⟩
 ] (by kernel_rfl)))
 (.live [2, 3] .ret)))

noncomputable def f9_b : Sim Tryz.prog :=
 (.seq (.live [0] (.region 0 [
 ⟨(opAssign (some 2) (.const (Value.slice none 0 0)) 23 "value.go:109" #[]).op, none⟩,
 ⟨(opAssign (some 3) (.const (Value.bool false)) 4 "value.go:109" #[{ on := 0, ground := Ground.chain }]).op, none⟩
 ] (by kernel_rfl)))
 (.seq (.live [4] (.region 1 [
 ⟨(opMove (some 8) (.tmp 0) 25 "value.go:110" #[]).op, none⟩,
 ⟨opCall (K.f26.orc 0) (some 9) [(.tmp 8)] #[25] 47 "value.go:110" #[{ on := 0, ground := Ground.data }], none⟩,
 ⟨(opAssign (some 4) (.tmp 9) 47 "value.go:110" #[{ on := 1, ground := Ground.data }, { on := 1, ground := Ground.chain }, { on := 0, ground := Ground.phase }, { on := 1, ground := Ground.phase }]).op, none⟩
 ] (by kernel_rfl)))
 (.seq (.live [4, 5] (.region 2 [
 ⟨(opAssign (some 5) (.const (Value.slice none 0 0)) 23 "value.go:111" #[]).op, none⟩
 ] (by kernel_rfl)))
 (.seq (.seq (.live [4, 5, 6] (.region 3 [
 ⟨(opMove (some 10) (.tmp 4) 47 "value.go:112" #[]).op, none⟩,
 ⟨opCall (K.q27).orc (some 11) [(.tmp 10), (.const (Value.int IntKind.i64 8))] #[47, 3] 3 "value.go:112" #[{ on := 0, ground := Ground.data }], none⟩,
 ⟨(opAssign (some 6) (.tmp 11) 3 "value.go:112" #[{ on := 1, ground := Ground.data }, { on := 1, ground := Ground.chain }, { on := 0, ground := Ground.phase }, { on := 1, ground := Ground.phase }]).op, none⟩
 ] (by kernel_rfl)))
 (.block 0 (.loop [4, 5, 6] f9_l0)))
 f9_r0))))

noncomputable def f9 : Fun Tryz.prog where
 id := 9
 fn := Tryz.f9
 hf := Tryz.func9
 hname := by kernel_rfl
 body := f9_b
 hbody := by kernel_rfl
 res := [rTmp 2, rTmp 3]
 hres := by kernel_rfl
 n := 31
 hn := by kernel_rfl

end Go.Proofs.YtcfedmheblbdnaaGreatDoor.V

/- What the functions' runs come to; the right sides were printed by a tool, Lean checks them. -/
set_option linter.unusedVariables false
set_option maxRecDepth 100000
namespace Go.Proofs.YtcfedmheblbdnaaGreatDoor.V
open Go Go.V Go.RowKit

theorem de_nil (F : Nat) :
 (f9.run F.succ [.nilsl] ⟨[], []⟩ : Ans) =
 some (Fin.ret (AV.tup [AV.nilsl, AV.bool false]), St.mk [Ob.cells [AV.nilsl, AV.bool true]] []) := by kernel_rfl

theorem de_run (F : Nat) (l : List (List AV)) :
 (f9.run F [.sl 1 false l] ⟨[], []⟩ : Ans) =
 branch (AV.bool (K.fit (Br.sl false l)))
 (branch (AV.bool (K.fit (Br.sl l.isEmpty l)))
 (onSome (K.getC (8 : Int) (nR l))
 (loopRun (f9_l0.run F) [4, 5, 6]
 (Cont.block 0 (Cont.then (f9_r0.run F (f9.leaveK Fun.done)) (f9.leaveK Fun.done))) F
 (Env.mk 31
 [(4, AV.ptr 0 0), (5, AV.nilsl), (6, AV.int IntKind.i64 (0 : Int))])
 (St.mk [Ob.cells [AV.nilsl, AV.bool true]] []))
 fun (o : Int × Nat) =>
 loopRun (f9_l0.run F) [4, 5, 6]
 (Cont.block 0 (Cont.then (f9_r0.run F (f9.leaveK Fun.done)) (f9.leaveK Fun.done))) F
 (Env.mk 31
 [(4, AV.ptr 0 0), (5, AV.nilsl), (6, AV.int IntKind.i64 o.fst)])
 (St.mk [Ob.cells [AV.sl 1 l.isEmpty (List.drop o.snd l), AV.bool false]] []))
 none)
 none := by kernel_rfl

theorem de_g0 (F m : Nat) (K : Cont) (n : Int) (f : Bool) (l : List (List AV)) :
 (loopRun (f9_l0.run F) [4, 5, 6] K m.succ (Env.mk 31 [(4, .ptr 0 0), (5, AV.nilsl), (6, .int .i64 n)]) ⟨[.cells [.sl 1 f l, .bool false]], []⟩ : Ans) =
 branch (AV.bool (decide (n > (0 : Int))))
 (branch (AV.bool (YtcfedmheblbdnaaGreatDoor.K.fit (Br.sl f l)))
 (loopRun (f9_l0.run F) [4, 5, 6] K m
 (Env.mk 31
 [(4, AV.ptr 0 0),
 (5,
 AV.lg 0 3
 [[AV.int IntKind.i64 (rdV l).fst.k, AV.int IntKind.i64 (rdV l).fst.n, AV.str (rdV l).fst.s]]),
 (6, AV.int IntKind.i64 (IntKind.i64.wrap (n - (1 : Int))))])
 (St.mk [Ob.cells (rdX f (rdV l).snd).cells] [(3, 1)]))
 none)
 (K (AX.exit 0) (Env.mk 31 [(4, AV.ptr 0 0), (5, AV.nilsl)])
 (St.mk [Ob.cells [AV.sl 1 f l, AV.bool false]] [])) := by kernel_rfl

theorem de_outg0 (F : Nat) (f : Bool) (l : List (List AV)) :
 ((Cont.block 0 (Cont.then (f9_r0.run F (f9.leaveK Fun.done)) (f9.leaveK Fun.done))) (.exit 0) (Env.mk 31 [(4, .ptr 0 0), (5, AV.nilsl)]) ⟨[.cells [.sl 1 f l, .bool false]], []⟩ : Ans) =
 branch (AV.bool !(↑l.length : Int) == (0 : Int))
 (some (Fin.ret (AV.tup [AV.nilsl, AV.bool false]), St.mk [Ob.cells [AV.sl 1 f l, AV.bool false]] []))
 (some (Fin.ret (AV.tup [AV.nilsl, AV.bool true]), St.mk [Ob.cells [AV.sl 1 f l, AV.bool false]] [])) := by kernel_rfl

theorem de_b0 (F m : Nat) (K : Cont) (n : Int) :
 (loopRun (f9_l0.run F) [4, 5, 6] K m.succ (Env.mk 31 [(4, .ptr 0 0), (5, AV.nilsl), (6, .int .i64 n)]) ⟨[.cells [.nilsl, .bool true]], []⟩ : Ans) =
 branch (AV.bool (decide (n > (0 : Int))))
 (loopRun (f9_l0.run F) [4, 5, 6] K m
 (Env.mk 31
 [(4, AV.ptr 0 0),
 (5,
 AV.lg 0 3
 [[AV.int IntKind.i64 (0 : Int), AV.int IntKind.i64 (0 : Int), AV.str (Va.mk (0 : Int) (0 : Int) noS).s]]),
 (6, AV.int IntKind.i64 (IntKind.i64.wrap (n - (1 : Int))))])
 (St.mk [Ob.cells [AV.nilsl, AV.bool true]] [(3, 1)]))
 (K (AX.exit 0) (Env.mk 31 [(4, AV.ptr 0 0), (5, AV.nilsl)])
 (St.mk [Ob.cells [AV.nilsl, AV.bool true]] [])) := by kernel_rfl

theorem de_outb0 (F : Nat) :
 ((Cont.block 0 (Cont.then (f9_r0.run F (f9.leaveK Fun.done)) (f9.leaveK Fun.done))) (.exit 0) (Env.mk 31 [(4, .ptr 0 0), (5, AV.nilsl)]) ⟨[.cells [.nilsl, .bool true]], []⟩ : Ans) =
 some (Fin.ret (AV.tup [AV.nilsl, AV.bool false]), St.mk [Ob.cells [AV.nilsl, AV.bool true]] []) := by kernel_rfl

theorem de_g1 (F m : Nat) (K : Cont) (n : Int) (f : Bool) (l : List (List AV)) (lo : List (List AV)) :
 (loopRun (f9_l0.run F) [4, 5, 6] K m.succ (Env.mk 31 [(4, .ptr 0 0), (5, .lg 0 3 lo), (6, .int .i64 n)]) ⟨[.cells [.sl 1 f l, .bool false]], [(3, lo.length)]⟩ : Ans) =
 branch (AV.bool (decide (n > (0 : Int))))
 (branch (AV.bool (YtcfedmheblbdnaaGreatDoor.K.fit (Br.sl f l)))
 (if
 some (3, lo.length) = some (3, lo.length) ∧
 (lo.length + 1) * 32 ≤ 140737488355328 then
 loopRun (f9_l0.run F) [4, 5, 6] K m
 (Env.mk 31
 [(4, AV.ptr 0 0),
 (5,
 AV.lg 0 3
 (lo ++ [[AV.int IntKind.i64 (rdV l).fst.k, AV.int IntKind.i64 (rdV l).fst.n, AV.str (rdV l).fst.s]])),
 (6, AV.int IntKind.i64 (IntKind.i64.wrap (n - (1 : Int))))])
 (St.mk [Ob.cells (rdX f (rdV l).snd).cells] [(3, lo.length + 1)])
 else none)
 none)
 (K (AX.exit 0)
 (Env.mk 31 [(4, AV.ptr 0 0), (5, AV.lg 0 3 lo)])
 (St.mk [Ob.cells [AV.sl 1 f l, AV.bool false]] [(3, lo.length)])) := by kernel_rfl

theorem de_outg1 (F : Nat) (f : Bool) (l : List (List AV)) (lo : List (List AV)) :
 ((Cont.block 0 (Cont.then (f9_r0.run F (f9.leaveK Fun.done)) (f9.leaveK Fun.done))) (.exit 0) (Env.mk 31 [(4, .ptr 0 0), (5, .lg 0 3 lo)]) ⟨[.cells [.sl 1 f l, .bool false]], [(3, lo.length)]⟩ : Ans) =
 branch (AV.bool !(↑l.length : Int) == (0 : Int))
 (some
 (Fin.ret (AV.tup [AV.nilsl, AV.bool false]),
 St.mk [Ob.cells [AV.sl 1 f l, AV.bool false]] [(3, lo.length)]))
 (branch (AV.bool (okV lo))
 (branch (AV.bool !rrV lo)
 (some
 (Fin.ret (AV.tup [AV.nilsl, AV.bool false]),
 St.mk [Ob.cells [AV.sl 1 f l, AV.bool false]] [(3, lo.length)]))
 (some
 (Fin.ret (AV.tup [AV.lg 0 3 lo, AV.bool true]),
 St.mk [Ob.cells [AV.sl 1 f l, AV.bool false]] [(3, lo.length)])))
 none) := by kernel_rfl

theorem de_b1 (F m : Nat) (K : Cont) (n : Int) (lo : List (List AV)) :
 (loopRun (f9_l0.run F) [4, 5, 6] K m.succ (Env.mk 31 [(4, .ptr 0 0), (5, .lg 0 3 lo), (6, .int .i64 n)]) ⟨[.cells [.nilsl, .bool true]], [(3, lo.length)]⟩ : Ans) =
 branch (AV.bool (decide (n > (0 : Int))))
 (if
 some (3, lo.length) = some (3, lo.length) ∧
 (lo.length + 1) * 32 ≤ 140737488355328 then
 loopRun (f9_l0.run F) [4, 5, 6] K m
 (Env.mk 31
 [(4, AV.ptr 0 0),
 (5,
 AV.lg 0 3
 (lo ++
 [[AV.int IntKind.i64 (0 : Int), AV.int IntKind.i64 (0 : Int),
 AV.str (Va.mk (0 : Int) (0 : Int) noS).s]])),
 (6, AV.int IntKind.i64 (IntKind.i64.wrap (n - (1 : Int))))])
 (St.mk [Ob.cells [AV.nilsl, AV.bool true]] [(3, lo.length + 1)])
 else none)
 (K (AX.exit 0)
 (Env.mk 31 [(4, AV.ptr 0 0), (5, AV.lg 0 3 lo)])
 (St.mk [Ob.cells [AV.nilsl, AV.bool true]] [(3, lo.length)])) := by kernel_rfl

theorem de_outb1 (F : Nat) (lo : List (List AV)) :
 ((Cont.block 0 (Cont.then (f9_r0.run F (f9.leaveK Fun.done)) (f9.leaveK Fun.done))) (.exit 0) (Env.mk 31 [(4, .ptr 0 0), (5, .lg 0 3 lo)]) ⟨[.cells [.nilsl, .bool true]], [(3, lo.length)]⟩ : Ans) =
 some (Fin.ret (AV.tup [AV.nilsl, AV.bool false]), St.mk [Ob.cells [AV.nilsl, AV.bool true]] [(3, lo.length)]) := by kernel_rfl

end Go.Proofs.YtcfedmheblbdnaaGreatDoor.V

/- Values: the row of bytes: the program's Decode, as a callee. -/
set_option linter.unusedVariables false
namespace Go.Proofs.YtcfedmheblbdnaaGreatDoor.V
open Go Go.V Go.RowKit

def cellsV (vs : List Va) : List (List AV) := vs.map Va.cells
theorem cellsV_ok (vs : List Va) : okV (cellsV vs) = true := by
  simp only [okV, cellsV, List.all_map, List.all_eq_true]
  intro v _; rfl
theorem rowsV_cells (vs : List Va) : rowsV (cellsV vs) = vs := by
  simp only [rowsV, cellsV, List.map_map]
  conv => rhs; rw [← List.map_id vs]
  exact List.map_congr_left fun v _ => rfl
theorem cellsV_len (vs : List Va) : (cellsV vs).length = vs.length := by simp [cellsV]
def decN : Nat → List (List AV) → Option (List Va × List (List AV))
  | 0, l => some ([], l)
  | n + 1, l => match (rdV l).2 with
    | none => none
    | some l' => match decN n l' with
      | none => none
      | some p => some ((rdV l).1 :: p.1, p.2)
theorem decN_len : ∀ {n : Nat} {l : List (List AV)} {p : List Va × List (List AV)}, decN n l = some p → p.1.length = n
  | 0, l, p, h => by cases h; rfl
  | n + 1, l, p, h => by
    simp only [decN] at h
    split at h
    · cases h
    · split at h
      · cases h
      · rename_i h2
        cases h
        simp only [List.length_cons, decN_len h2]
/-- The row of bytes, if they are one. -/
def decF (l : List (List AV)) : Option (List Va) :=
  match K.getC 8 (nR l) with
  | none => none
  | some o => match decN o.1.toNat (l.drop o.2) with
    | none => none
    | some p => bif (p.2.length : Int) == 0 && p.1.all rightV then some p.1 else none
def outA (lo : List Va) : AV := match lo with
  | [] => .nilsl
  | x :: r => .lg 0 3 (cellsV (x :: r))
def outT (lo : List Va) : List (Nat × Nat) := match lo with
  | [] => []
  | x :: r => [(3, (cellsV (x :: r)).length)]
theorem outA_snoc (lo : List Va) (v : Va) : outA (lo ++ [v]) = .lg 0 3 (cellsV lo ++ [v.cells]) := by
  cases lo with
  | nil => rfl
  | cons x r => show AV.lg 0 3 (cellsV (x :: (r ++ [v]))) = _; simp [cellsV]
theorem outT_snoc (lo : List Va) (v : Va) : outT (lo ++ [v]) = [(3, lo.length + 1)] := by
  cases lo with
  | nil => rfl
  | cons x r => show [(3, (cellsV (x :: (r ++ [v]))).length)] = _; simp [cellsV]
noncomputable def deK (F : Nat) : Cont := Cont.block 0 (Cont.then (f9_r0.run F (f9.leaveK Fun.done)) (f9.leaveK Fun.done))
theorem wrap_dn {k : Nat} (h : k < 1000) : IntKind.i64.wrap (((k + 1 : Nat) : Int) - 1) = (k : Nat) := by rw [wrapS (by omega) (by omega)]; omega
theorem de_gstep (F m : Nat) (K' : Cont) (f : Bool) (l : List (List AV)) (hf : K.fit (.sl f l) = true) (lo : List Va) (k : Nat) (hk : k < 1000) (hlo : lo.length ≤ 1000) :
    loopRun (f9_l0.run F) [4, 5, 6] K' m.succ (Env.mk 31 [(4, .ptr 0 0), (5, outA lo), (6, .int .i64 ((k + 1 : Nat) : Int))]) ⟨[.cells [.sl 1 f l, .bool false]], outT lo⟩
      = loopRun (f9_l0.run F) [4, 5, 6] K' m (Env.mk 31 [(4, .ptr 0 0), (5, outA (lo ++ [(rdV l).1])), (6, .int .i64 (k : Nat))]) ⟨[.cells (rdX f (rdV l).2).cells], outT (lo ++ [(rdV l).1])⟩ := by
  rw [outA_snoc, outT_snoc]
  cases lo with
  | nil => rw [outA, outT, de_g0, branch_of (decide_eq_true (by omega)), branch_of hf, wrap_dn hk]; rfl
  | cons x r =>
    rw [outA, outT, de_g1, branch_of (decide_eq_true (by omega)), branch_of hf, wrap_dn hk, if_pos ⟨rfl, by rw [cellsV_len]; omega⟩, cellsV_len]; rfl
theorem de_bstep (F m : Nat) (K' : Cont) (lo : List Va) (k : Nat) (hk : k < 1000) (hlo : lo.length ≤ 1000) :
    loopRun (f9_l0.run F) [4, 5, 6] K' m.succ (Env.mk 31 [(4, .ptr 0 0), (5, outA lo), (6, .int .i64 ((k + 1 : Nat) : Int))]) ⟨[.cells [.nilsl, .bool true]], outT lo⟩
      = loopRun (f9_l0.run F) [4, 5, 6] K' m (Env.mk 31 [(4, .ptr 0 0), (5, outA (lo ++ [⟨0, 0, noS⟩])), (6, .int .i64 (k : Nat))]) ⟨[.cells [.nilsl, .bool true]], outT (lo ++ [⟨0, 0, noS⟩])⟩ := by
  rw [outA_snoc, outT_snoc]
  cases lo with
  | nil => rw [outA, outT, de_b0, branch_of (decide_eq_true (by omega)), wrap_dn hk]; rfl
  | cons x r =>
    rw [outA, outT, de_b1, branch_of (decide_eq_true (by omega)), wrap_dn hk, if_pos ⟨rfl, by rw [cellsV_len]; omega⟩, cellsV_len]; rfl
theorem de_bad (F : Nat) : ∀ (k m : Nat) (lo : List Va), k < m → k ≤ 8 → lo.length + k ≤ 1000 →
    ∃ st', loopRun (f9_l0.run F) [4, 5, 6] (deK F) m (Env.mk 31 [(4, .ptr 0 0), (5, outA lo), (6, .int .i64 (k : Nat))]) ⟨[.cells [.nilsl, .bool true]], outT lo⟩ = some (.ret (.tup [.nilsl, .bool false]), st')
  | k, 0, lo, h, _, _ => by omega
  | 0, m + 1, lo, _, _, _ => by
    rw [show m + 1 = m.succ from rfl]
    cases lo with
    | nil => rw [outA, outT, de_b0, branch_not (decide_eq_false (by omega)), deK, de_outb0]; exact ⟨_, rfl⟩
    | cons x r => rw [outA, outT, de_b1, branch_not (decide_eq_false (by omega)), deK, de_outb1]; exact ⟨_, rfl⟩
  | k + 1, m + 1, lo, h, h8, hlo => by
    rw [show m + 1 = m.succ from rfl, de_bstep F m _ lo k (by omega) (by omega)]
    exact de_bad F k m _ (by omega) (by omega) (by simp; omega)
/-- What comes out. -/
def deAns (x : Option (List Va)) : AV := match x with
  | none => .tup [.nilsl, .bool false]
  | some vs => .tup [outA vs, .bool true]
theorem rrV_cells (vs : List Va) (h : vs.length ≤ 8) : rrV (cellsV vs) = vs.all rightV := by
  rw [rrV, rowsV_cells, decide_eq_true (by rw [cellsV_len]; omega), Bool.true_and]
theorem de_good (F : Nat) (f : Bool) : ∀ (k m : Nat) (lo : List Va) (l : List (List AV)), k < m → lo.length + k ≤ 8 → K.fit (.sl f l) = true →
    ∃ st', loopRun (f9_l0.run F) [4, 5, 6] (deK F) m (Env.mk 31 [(4, .ptr 0 0), (5, outA lo), (6, .int .i64 (k : Nat))]) ⟨[.cells [.sl 1 f l, .bool false]], outT lo⟩
      = some (.ret (deAns (match decN k l with
        | none => none
        | some p => bif (p.2.length : Int) == 0 && (lo ++ p.1).all rightV then some (lo ++ p.1) else none)), st')
  | k, 0, lo, l, h, _, _ => by omega
  | 0, m + 1, lo, l, _, hlo, hf => by
    rw [show m + 1 = m.succ from rfl, decN]
    simp only [List.append_nil]
    cases lo with
    | nil =>
      rw [outA, outT, de_g0, branch_not (decide_eq_false (by omega)), deK, de_outg0]
      cases hz : (l.length : Int) == 0 with
      | true => exact ⟨_, rfl⟩
      | false => exact ⟨_, rfl⟩
    | cons x r =>
      rw [outA, outT, de_g1, branch_not (decide_eq_false (by omega)), deK, de_outg1, branch_of (cellsV_ok (x :: r)), rrV_cells _ (by omega)]
      cases hz : (l.length : Int) == 0 with
      | false => exact ⟨_, rfl⟩
      | true =>
        rw [Bool.not_true, branch_false, Bool.true_and]
        cases (x :: r).all rightV <;> exact ⟨_, rfl⟩
  | k + 1, m + 1, lo, l, h, hlo, hf => by
    rw [show m + 1 = m.succ from rfl, de_gstep F m _ f l hf lo k (by omega) (by omega), decN]
    have hok := rdV_ok hf
    have hfit : ∀ l', (rdV l).2 = some l' → K.fit (.sl f l') = true := by
      intro l' hl'
      unfold rdV at hl'
      split at hl'
      · cases hl'
      · rename_i o _
        cases h1 : o.1 == 1 || o.1 == 2 with
        | true =>
          rw [h1, cond_true] at hl'
          split at hl'
          · cases hl'
          · cases hl'; exact fit_drop (fit_drop hf _) _
        | false =>
          rw [h1, cond_false] at hl'
          cases h3 : o.1 == 3 with
          | true =>
            rw [h3, cond_true] at hl'
            split at hl'
            · cases hl'
            · cases hl'; exact fit_drop (fit_drop hf _) _
          | false => rw [h3, cond_false] at hl'; cases hl'; exact fit_drop hf _
    cases hr : (rdV l).2 with
    | none => exact de_bad F k m _ (by omega) (by omega) (by simp; omega)
    | some l' =>
      obtain ⟨st', ih⟩ := de_good F f k m (lo ++ [(rdV l).1]) l' (by omega) (by simp; omega) (hfit l' hr)
      refine ⟨st', ih.trans ?_⟩
      simp only
      cases decN k l' with
      | none => rfl
      | some p => simp only [List.append_assoc, List.singleton_append]
theorem getC_range {n : Int} {l : List Nat} {o : Int × Nat} (h : K.getC n l = some o) : 0 ≤ o.1 ∧ o.1 ≤ n := by
  unfold K.getC at h
  split at h
  · cases h
  · split at h
    · cases h
    · cases h; omega
theorem de_spec (F : Nat) (hF : 1000 < F) (l : List (List AV)) (hf : K.fit (.sl false l) = true) : ∃ st', f9.run F [.sl 1 false l] ⟨[], []⟩ = some (.ret (deAns (decF l)), st') := by
  have hf2 : K.fit (.sl l.isEmpty l) = true := hf
  rw [de_run, branch_of hf, branch_of hf2, decF]
  cases hg : K.getC 8 (nR l) with
  | none =>
    obtain ⟨st', h⟩ := de_bad F 0 F [] (by omega) (by omega) (by simp)
    exact ⟨st', h⟩
  | some o =>
    obtain ⟨h1, h2⟩ := getC_range hg
    obtain ⟨n, hn⟩ := Int.eq_ofNat_of_zero_le h1
    obtain ⟨st', h⟩ := de_good F l.isEmpty n F [] (l.drop o.2) (by omega) (by simp; omega) (fit_drop hf2 _)
    refine ⟨st', ?_⟩
    simp only [onSome, hn, Int.toNat_natCast]
    exact h
/-- The answer, as the statement reads it. -/
def deG (z : Bool) (x : Option (List Va)) : AV := .tup [.ns z 3 (cellsV (x.getD [])), .bool x.isSome]
theorem scoped_cells (vs : List Va) : ScopedR 0 0 (cellsV vs) := scoped_okV (cellsV_ok vs)
noncomputable def okY (a : Bool × List (List AV)) : Bool := cdec ((a.1 = true → a.2 = []) ∧ K.fit (.sl false a.2) = true)
noncomputable def p9 : POrc Tryz.prog := f9.seenAs2 dec1y (fun a => [nsBA a]) (fun a => [nsSl a.1 1 a.2]) dec1y_enc okY (fun a => deG ((decF a.2).getD []).isEmpty (decF a.2)) fun a h => by
  obtain ⟨h1, h2⟩ := cdec_iff.mp h
  obtain ⟨z, l⟩ := a
  simp only at h1 h2
  refine ⟨fun g w vals ⟨v, vr, e, r1, r2⟩ => ⟨v, vr, e, nsSl_rel r1, r2⟩, ?_⟩
  cases z with
  | true =>
    obtain rfl := h1 rfl
    have : decF [] = none := rfl
    rw [this]
    exact ⟨⟨trivial, trivial⟩, .tup [.nilsl, .bool false], 1, _, _, rfl, ⟨trivial, trivial, trivial⟩, de_nil 0, fun _ _ _ => tup2_mono fun _ => ns_of_nil⟩
  | false =>
    obtain ⟨st', h⟩ := de_spec 1001 (by omega) l h2
    refine ⟨⟨near_okR (K.fit_spec h2).1, trivial⟩, frz (deAns (decF l)), 1001, _, st', rfl, ?_, h, ?_⟩
    · cases decF l with
      | none => exact ⟨trivial, trivial, trivial⟩
      | some vs =>
        cases vs with
        | nil => exact ⟨trivial, trivial, trivial⟩
        | cons x r => exact ⟨scoped_cells _, trivial, trivial⟩
    · intro g w v
      cases decF l with
      | none => exact tup2_mono fun _ => ns_of_nil
      | some vs =>
        cases vs with
        | nil => exact tup2_mono fun _ => ns_of_nil
        | cons x r => exact tup2_mono fun _ => ns_of_sl
end Go.Proofs.YtcfedmheblbdnaaGreatDoor.V

/- The functions' pieces, as told by gen.py. -/
set_option linter.unusedVariables false
set_option maxRecDepth 20000
namespace Go.Proofs.YtcfedmheblbdnaaGreatDoor.V
open Go Go.V Go.RowKit

theorem ze54 : (Tryz.prog.info? 54).bind (·.zero) = some (.agg #[(.slice none 0 0), (.bool false)]) := by kernel_rfl
theorem fl54_1 : fieldB Tryz.prog 54 1 1 1 false = true := by kernel_rfl
theorem fl54_0 : fieldB Tryz.prog 54 0 0 1 false = true := by kernel_rfl

/-! ### 10: interlock/interlockref04.Decode (25); results 2, 3; slots: 0 b, 1 b, 4 r, 5 n, 6 out, 7 i, 8 v -/
/-- A loop's round; at its head live: 4 r, 5 n, 6 out, 7 i -/
noncomputable def f10_l0 : Sim Tryz.prog :=
 (.seq (.seq (.live [4, 5, 6, 7, 18] (.region 5 [
 ⟨(opMove (some 16) (.tmp 7) 3 "ref.go:142" #[]).op, none⟩,
 ⟨(opMove (some 17) (.tmp 5) 3 "ref.go:142" #[]).op, none⟩,
 ⟨(opBin (some 18) .lss 3 (.tmp 16) (.tmp 17) 3 4 "ref.go:142" #[{ on := 0, ground := Ground.data }, { on := 1, ground := Ground.data }]).op, none⟩
 ] (by kernel_rfl)))
 (.cond (.tmp 18)
 .skip
 (.live [4, 6] (.exit 0))))
 (.seq (.block 1 (.seq (.live [4, 5, 6, 7, 8] (.region 7 [
 ⟨(opMove (some 21) (.tmp 4) 51 "ref.go:143" #[]).op, none⟩,
 ⟨opCall (K.q31).orc (some 22) [(.tmp 21), (.const (Value.int IntKind.i64 3))] #[51, 3] 3 "ref.go:143" #[{ on := 0, ground := Ground.data }], none⟩,
 ⟨(opBuild (some 23) 40 #[(.int .i64 0), (.int .i64 0), (.string ⟨#[]⟩)] [(0, 0, 1, (.tmp 22))] ze40 (by kernel_rfl) 40 "ref.go:143" #[{ on := 1, ground := Ground.data }]).op, none⟩,
 ⟨(opAllocR none 1 (some 8) 40 (.agg #[(.int .i64 0), (.int .i64 0), (.string ⟨#[]⟩)]) ze40 0 "ref.go:143" #[]).op, none⟩,
 ⟨(opStore none 40 (.tmp 8) (.tmp 23) 3 sz40 0 "ref.go:143" #[{ on := 3, ground := Ground.data }, { on := 2, ground := Ground.data }, { on := 1, ground := Ground.chain }, { on := 0, ground := Ground.phase }, { on := 1, ground := Ground.phase }, { on := 2, ground := Ground.phase }, { on := 3, ground := Ground.phase }]).op, none⟩
 ] (by kernel_rfl)))
 (.seq (.seq (.live [4, 5, 6, 7, 8, 31] (.region 8 [
 ⟨(opFieldAddr (some 24) 40 (.tmp 8) 0 0 1 false fl40_0 (by decide) 0 "ref.go:144" #[]).op, none⟩,
 ⟨(opLoadT (.one (.int .i64)) (some 25) 3 (.tmp 24) (.int .i64) Tryz.underlying3 1 sz3 (by kernel_rfl) 3 "ref.go:144" #[{ on := 0, ground := Ground.data }]).op, none⟩,
 ⟨(opBin (some 26) .eql 3 (.tmp 25) (.const (Value.int IntKind.i64 1)) 3 4 "ref.go:144" #[{ on := 1, ground := Ground.data }]).op, none⟩,
 ⟨(opMove (some 27) (.tmp 26) 4 "ref.go:144" #[{ on := 2, ground := Ground.data }]).op, none⟩,
 ⟨(opFieldAddr (some 28) 40 (.tmp 8) 0 0 1 false fl40_0 (by decide) 0 "ref.go:144" #[{ on := 3, ground := Ground.guard }]).op, (some (3, 27, false))⟩,
 ⟨(opLoadT (.one (.int .i64)) (some 29) 3 (.tmp 28) (.int .i64) Tryz.underlying3 1 sz3 (by kernel_rfl) 3 "ref.go:144" #[{ on := 4, ground := Ground.data }, { on := 3, ground := Ground.guard }]).op, (some (3, 27, false))⟩,
 ⟨(opBin (some 30) .eql 3 (.tmp 29) (.const (Value.int IntKind.i64 2)) 3 4 "ref.go:144" #[{ on := 5, ground := Ground.data }, { on := 3, ground := Ground.guard }]).op, (some (3, 27, false))⟩,
 ⟨(opPick (some 31) (.tmp 27) (.const (Value.bool true)) (.tmp 30) 4 "ref.go:144" #[{ on := 3, ground := Ground.data }, { on := 6, ground := Ground.data }]).op, none⟩
 ] (by kernel_rfl)))
 (.cond (.tmp 31)
 (.live [4, 5, 6, 7, 8] (.region 9 [
 ⟨(opMove (some 32) (.tmp 4) 51 "ref.go:145" #[]).op, none⟩,
 ⟨opCall (K.q32).orc (some 33) [(.tmp 32)] #[51] 3 "ref.go:145" #[{ on := 0, ground := Ground.data }], none⟩,
 ⟨(opFieldAddr (some 34) 40 (.tmp 8) 1 1 1 false fl40_1 (by decide) 0 "ref.go:145" #[{ on := 0, ground := Ground.phase }, { on := 1, ground := Ground.phase }]).op, none⟩,
 ⟨(opStore none 3 (.tmp 34) (.tmp 33) 1 sz3 0 "ref.go:145" #[{ on := 2, ground := Ground.data }, { on := 1, ground := Ground.data }, { on := 1, ground := Ground.chain }, { on := 0, ground := Ground.phase }, { on := 1, ground := Ground.phase }]).op, none⟩
 ] (by kernel_rfl)))
 .skip))
 (.seq (.seq (.live [4, 5, 6, 7, 8, 37] (.region 10 [
 ⟨(opFieldAddr (some 35) 40 (.tmp 8) 0 0 1 false fl40_0 (by decide) 0 "ref.go:147" #[]).op, none⟩,
 ⟨(opLoadT (.one (.int .i64)) (some 36) 3 (.tmp 35) (.int .i64) Tryz.underlying3 1 sz3 (by kernel_rfl) 3 "ref.go:147" #[{ on := 0, ground := Ground.data }]).op, none⟩,
 ⟨(opBin (some 37) .eql 3 (.tmp 36) (.const (Value.int IntKind.i64 3)) 3 4 "ref.go:147" #[{ on := 1, ground := Ground.data }]).op, none⟩
 ] (by kernel_rfl)))
 (.cond (.tmp 37)
 (.live [4, 5, 6, 7, 8] (.region 11 [
 ⟨(opMove (some 38) (.tmp 4) 51 "ref.go:148" #[]).op, none⟩,
 ⟨opCall (K.q33).orc (some 39) [(.tmp 38)] #[51] 9 "ref.go:148" #[{ on := 0, ground := Ground.data }], none⟩,
 ⟨(opFieldAddr (some 40) 40 (.tmp 8) 2 2 1 false fl40_2 (by decide) 0 "ref.go:148" #[{ on := 0, ground := Ground.phase }, { on := 1, ground := Ground.phase }]).op, none⟩,
 ⟨(opStore none 9 (.tmp 40) (.tmp 39) 1 sz9 0 "ref.go:148" #[{ on := 2, ground := Ground.data }, { on := 1, ground := Ground.data }, { on := 1, ground := Ground.chain }, { on := 0, ground := Ground.phase }, { on := 1, ground := Ground.phase }]).op, none⟩
 ] (by kernel_rfl)))
 .skip))
 (.live [4, 5, 6, 7] (.region 12 [
 ⟨(opMove (some 41) (.tmp 6) 23 "ref.go:150" #[]).op, none⟩,
 ⟨(opLoadT (.agg [(.int .i64), (.int .i64), .str]) (some 42) 40 (.tmp 8) d40 ud40 3 sz40 (by kernel_rfl) 40 "ref.go:150" #[]).op, none⟩,
 ⟨(opBuildSlice (some 43) 23 1 [(0, (.tmp 42))] 40 3 32 (.agg #[(.int .i64 0), (.int .i64 0), (.string ⟨#[]⟩)]) el23 (by kernel_rfl) (by decide) 23 "ref.go:150" #[{ on := 1, ground := Ground.data }]).op, none⟩,
 ⟨(opAppend (some 44) (.tmp 41) (.tmp 43) 23 23 40 3 32 (.agg #[(.int .i64 0), (.int .i64 0), (.string ⟨#[]⟩)]) el23 (.slice 40) Tryz.underlying23 rfl 23 "ref.go:150" #[{ on := 0, ground := Ground.data }, { on := 2, ground := Ground.data }]).op, none⟩,
 ⟨(opAssign (some 6) (.tmp 44) 23 "ref.go:150" #[{ on := 3, ground := Ground.data }, { on := 3, ground := Ground.chain }, { on := 0, ground := Ground.phase }, { on := 1, ground := Ground.phase }, { on := 2, ground := Ground.phase }, { on := 3, ground := Ground.phase }]).op, none⟩
 ] (by kernel_rfl)))))))
 (.live [4, 5, 6, 7] (.region 6 [
 ⟨(opMove (some 19) (.tmp 7) 3 "ref.go:142" #[]).op, none⟩,
 ⟨(opBin (some 20) .add 3 (.tmp 19) (.const (Value.int IntKind.i64 1)) 3 3 "ref.go:142" #[{ on := 0, ground := Ground.data }]).op, none⟩,
 ⟨(opAssign (some 7) (.tmp 20) 3 "ref.go:142" #[{ on := 1, ground := Ground.data }, { on := 0, ground := Ground.phase }, { on := 1, ground := Ground.phase }]).op, none⟩
 ] (by kernel_rfl)))))

/-- What follows a loop. -/
noncomputable def f10_r0 : Sim Tryz.prog :=
 (.seq (.seq (.live [6, 61] (.region 13 [
 ⟨(opMove (some 45) (.tmp 4) 51 "ref.go:152" #[]).op, none⟩,
 ⟨(opNilCheck (some 46) (.tmp 45) 0 "ref.go:152" #[{ on := 0, ground := Ground.data }]).op, none⟩,
 ⟨(opFieldAddr (some 47) 54 (.tmp 46) 1 1 1 false fl54_1 (by decide) 0 "ref.go:152" #[{ on := 1, ground := Ground.data }]).op, none⟩,
 ⟨(opLoadT (.one .bool) (some 48) 4 (.tmp 47) .bool Tryz.underlying4 1 sz4 (by kernel_rfl) 4 "ref.go:152" #[{ on := 2, ground := Ground.data }]).op, none⟩,
 ⟨(opMove (some 49) (.tmp 48) 4 "ref.go:152" #[{ on := 3, ground := Ground.data }]).op, none⟩,
 ⟨(opMove (some 50) (.tmp 4) 51 "ref.go:152" #[{ on := 4, ground := Ground.guard }]).op, (some (4, 49, false))⟩,
 ⟨(opNilCheck (some 51) (.tmp 50) 0 "ref.go:152" #[{ on := 5, ground := Ground.data }, { on := 4, ground := Ground.guard }]).op, (some (4, 49, false))⟩,
 ⟨(opFieldAddr (some 52) 54 (.tmp 51) 0 0 1 false fl54_0 (by decide) 0 "ref.go:152" #[{ on := 6, ground := Ground.data }, { on := 4, ground := Ground.guard }]).op, (some (4, 49, false))⟩,
 ⟨(opLoadT (.one .any) (some 53) 25 (.tmp 52) (.slice 5) Tryz.underlying25 1 sz25 (by kernel_rfl) 25 "ref.go:152" #[{ on := 7, ground := Ground.data }, { on := 4, ground := Ground.guard }]).op, (some (4, 49, false))⟩,
 ⟨(opLen (some 54) (.tmp 53) 25 (.slice 5) Tryz.underlying25 3 "ref.go:152" #[{ on := 8, ground := Ground.data }, { on := 4, ground := Ground.guard }]).op, (some (4, 49, false))⟩,
 ⟨(opBin (some 55) .gtr 3 (.tmp 54) (.const (Value.int IntKind.i64 0)) 3 4 "ref.go:152" #[{ on := 9, ground := Ground.data }, { on := 4, ground := Ground.guard }]).op, (some (4, 49, false))⟩,
 ⟨(opPick (some 56) (.tmp 49) (.const (Value.bool true)) (.tmp 55) 4 "ref.go:152" #[{ on := 4, ground := Ground.data }, { on := 10, ground := Ground.data }]).op, none⟩,
 ⟨(opMove (some 57) (.tmp 56) 4 "ref.go:152" #[{ on := 11, ground := Ground.data }, { on := 4, ground := Ground.chain }]).op, none⟩,
 ⟨(opMove (some 58) (.tmp 6) 23 "ref.go:152" #[{ on := 12, ground := Ground.guard }]).op, (some (12, 57, false))⟩,
 ⟨(opCallP p12n (some 59) [(.tmp 58)] #[23] 4 "ref.go:152" #[{ on := 13, ground := Ground.data }, { on := 12, ground := Ground.chain }, { on := 12, ground := Ground.guard }]).op, (some (12, 57, false))⟩,
 ⟨(opNot (some 60) 4 (.tmp 59) 4 "ref.go:152" #[{ on := 14, ground := Ground.data }, { on := 12, ground := Ground.guard }]).op, (some (12, 57, false))⟩,
 ⟨(opPick (some 61) (.tmp 57) (.const (Value.bool true)) (.tmp 60) 4 "ref.go:152" #[{ on := 12, ground := Ground.data }, { on := 15, ground := Ground.data }]).op, none⟩
 ] (by kernel_rfl)))
 (.cond (.tmp 61)
 (.seq (.live [2, 3] (.region 14 [
 ⟨(opAssign (some 2) (.const (Value.slice none 0 0)) 23 "ref.go:153" #[]).op, none⟩,
 ⟨(opAssign (some 3) (.const (Value.bool false)) 4 "ref.go:153" #[{ on := 0, ground := Ground.chain }, { on := 0, ground := Ground.phase }]).op, none⟩
 ] (by kernel_rfl)))
 (.live [2, 3] .ret))
 .skip))
 (.seq (.live [2, 3] (.region 15 [
 ⟨(opMove (some 62) (.tmp 6) 23 "ref.go:155" #[]).op, none⟩,
 ⟨(opAssign (some 2) (.tmp 62) 23 "ref.go:155" #[{ on := 0, ground := Ground.data }, { on := 0, ground := Ground.phase }]).op, none⟩,
 ⟨(opAssign (some 3) (.const (Value.bool true)) 4 "ref.go:155" #[{ on := 1, ground := Ground.chain }, { on := 0, ground := Ground.phase }, { on := 1, ground := Ground.phase }]).op, none⟩
 ] (by kernel_rfl)))
 (.live [2, 3] .ret)))

noncomputable def f10_b : Sim Tryz.prog :=
 (.seq (.live [0] (.region 0 [
 ⟨(opAssign (some 2) (.const (Value.slice none 0 0)) 23 "ref.go:138" #[]).op, none⟩,
 ⟨(opAssign (some 3) (.const (Value.bool false)) 4 "ref.go:138" #[{ on := 0, ground := Ground.chain }]).op, none⟩
 ] (by kernel_rfl)))
 (.seq (.live [4] (.region 1 [
 ⟨(opMove (some 9) (.tmp 0) 25 "ref.go:139" #[]).op, none⟩,
 ⟨(opCallP K.r30 (some 10) [(.tmp 9)] #[25] 25 "ref.go:139" #[{ on := 0, ground := Ground.data }]).op, none⟩,
 ⟨(opBuild (some 11) 54 #[(.slice none 0 0), (.bool false)] [(0, 0, 1, (.tmp 10))] ze54 (by kernel_rfl) 54 "ref.go:139" #[{ on := 1, ground := Ground.data }]).op, none⟩,
 ⟨(MSim.ph (opBox (some 12) 54 (.tmp 11) 51 "ref.go:139" #[{ on := 2, ground := Ground.data }]) 1).op, none⟩,
 ⟨(opAssign (some 4) (.tmp 12) 51 "ref.go:139" #[{ on := 3, ground := Ground.data }, { on := 1, ground := Ground.chain }, { on := 0, ground := Ground.phase }, { on := 1, ground := Ground.phase }, { on := 2, ground := Ground.phase }, { on := 3, ground := Ground.phase }]).op, none⟩
 ] (by kernel_rfl)))
 (.seq (.live [4, 5] (.region 2 [
 ⟨(opMove (some 13) (.tmp 4) 51 "ref.go:140" #[]).op, none⟩,
 ⟨opCall (K.q31).orc (some 14) [(.tmp 13), (.const (Value.int IntKind.i64 8))] #[51, 3] 3 "ref.go:140" #[{ on := 0, ground := Ground.data }], none⟩,
 ⟨(opAssign (some 5) (.tmp 14) 3 "ref.go:140" #[{ on := 1, ground := Ground.data }, { on := 1, ground := Ground.chain }, { on := 0, ground := Ground.phase }, { on := 1, ground := Ground.phase }]).op, none⟩
 ] (by kernel_rfl)))
 (.seq (.live [4, 5, 6] (.region 3 [
 ⟨(opBuildSlice (some 15) 23 0 [] 40 3 32 (.agg #[(.int .i64 0), (.int .i64 0), (.string ⟨#[]⟩)]) el23 (by kernel_rfl) (by decide) 23 "ref.go:141" #[]).op, none⟩,
 ⟨(opAssign (some 6) (.tmp 15) 23 "ref.go:141" #[{ on := 0, ground := Ground.data }, { on := 0, ground := Ground.phase }]).op, none⟩
 ] (by kernel_rfl)))
 (.seq (.seq (.live [4, 5, 6, 7] (.region 4 [
 ⟨(opAssign (some 7) (.const (Value.int IntKind.i64 0)) 3 "ref.go:142" #[]).op, none⟩
 ] (by kernel_rfl)))
 (.block 0 (.loop [4, 5, 6, 7] f10_l0)))
 f10_r0)))))

noncomputable def f10 : Fun Tryz.prog where
 id := 10
 fn := Tryz.f10
 hf := Tryz.func10
 hname := by kernel_rfl
 body := f10_b
 hbody := by kernel_rfl
 res := [rTmp 2, rTmp 3]
 hres := by kernel_rfl
 n := 63
 hn := by kernel_rfl

end Go.Proofs.YtcfedmheblbdnaaGreatDoor.V

/- What the functions' runs come to; the right sides were printed by a tool, Lean checks them. -/
set_option linter.unusedVariables false
set_option maxRecDepth 100000
namespace Go.Proofs.YtcfedmheblbdnaaGreatDoor.V
open Go Go.V Go.RowKit

theorem rde_run (F : Nat) (l : List (List AV)) :
 (f10.run F [.sl 1 false l] ⟨[], []⟩ : Ans) =
 branch (AV.bool (K.fit (Br.sl false l)))
 (branch (AV.bool (K.fit (Br.sl l.isEmpty l)))
 (onSome (K.getC (8 : Int) (nR l))
 (loopRun (f10_l0.run F) [4, 5, 6, 7]
 (Cont.block 0 (Cont.then (f10_r0.run F (f10.leaveK Fun.done)) (f10.leaveK Fun.done))) F
 (Env.mk 63
 [(4, AV.ptr 0 0), (5, AV.int IntKind.i64 (0 : Int)),
 (6, AV.sl 3 true []), (7, AV.int IntKind.i64 (0 : Int))])
 (St.mk [Ob.cells [AV.sl 1 l.isEmpty (List.drop (K.resT (nR l)) l), AV.bool true], Ob.nov 0] []))
 fun (o : Int × Nat) =>
 loopRun (f10_l0.run F) [4, 5, 6, 7]
 (Cont.block 0 (Cont.then (f10_r0.run F (f10.leaveK Fun.done)) (f10.leaveK Fun.done))) F
 (Env.mk 63
 [(4, AV.ptr 0 0), (5, AV.int IntKind.i64 o.fst),
 (6, AV.sl 3 true []), (7, AV.int IntKind.i64 (0 : Int))])
 (St.mk [Ob.cells [AV.sl 1 l.isEmpty (List.drop o.snd l), AV.bool false], Ob.nov 0] []))
 none)
 none := by kernel_rfl

theorem rde_nil (F : Nat) :
 (f10.run F.succ [.nilsl] ⟨[], []⟩ : Ans) =
 some
 (Fin.ret (AV.tup [AV.nilsl, AV.bool false]),
 St.mk [Ob.cells [AV.sl 1 true [], AV.bool true], Ob.nov 0] []) := by kernel_rfl

theorem rde_g0 (F m : Nat) (K : Cont) (n i : Int) (f : Bool) (l : List (List AV)) :
 (loopRun (f10_l0.run F) [4, 5, 6, 7] K m.succ (Env.mk 63 [(4, .ptr 0 0), (5, .int .i64 n), (6, AV.sl 3 true []), (7, .int .i64 i)]) ⟨[.cells [.sl 1 f l, .bool false], .nov 0], []⟩ : Ans) =
 branch (AV.bool (decide (i < n)))
 (branch (AV.bool (YtcfedmheblbdnaaGreatDoor.K.fit (Br.sl f l)))
 (onSome (YtcfedmheblbdnaaGreatDoor.K.getC (3 : Int) (nR l))
 (loopRun (f10_l0.run F) [4, 5, 6, 7] K m
 (Env.mk 63
 [(4, AV.ptr 0 0), (5, AV.int IntKind.i64 n),
 (6,
 AV.lg 0 3
 [[AV.int IntKind.i64 (0 : Int), AV.int IntKind.i64 (0 : Int), AV.str (ByteArray.mk #[])]]),
 (7, AV.int IntKind.i64 (IntKind.i64.wrap (i + (1 : Int))))])
 (St.mk
 [Ob.cells [AV.sl 1 f (List.drop (YtcfedmheblbdnaaGreatDoor.K.resT (nR l)) l), AV.bool true],
 Ob.vec 1 [AV.int IntKind.i64 (0 : Int), AV.int IntKind.i64 (0 : Int), AV.str (ByteArray.mk #[])]]
 [(3, 1)]))
 fun (o : Int × Nat) =>
 branch (AV.bool (o.fst == (1 : Int)))
 (branch (AV.bool (YtcfedmheblbdnaaGreatDoor.K.fit (Br.sl f (List.drop o.snd l))))
 (onSome (YtcfedmheblbdnaaGreatDoor.K.getN (nR (List.drop o.snd l)))
 (branch (AV.bool (o.fst == (3 : Int)))
 (loopRun (f10_l0.run F) [4, 5, 6, 7] K m
 (Env.mk 63
 [(4, AV.ptr 0 0), (5, AV.int IntKind.i64 n),
 (6,
 AV.lg 0 3
 [[AV.int IntKind.i64 o.fst, AV.int IntKind.i64 (0 : Int),
 AV.str YtcfedmheblbdnaaGreatDoor.K.noText]]),
 (7, AV.int IntKind.i64 (IntKind.i64.wrap (i + (1 : Int))))])
 (St.mk
 [Ob.cells [AV.sl 1 f (List.drop o.snd l), AV.bool true],
 Ob.vec 1
 [AV.int IntKind.i64 o.fst, AV.int IntKind.i64 (0 : Int),
 AV.str YtcfedmheblbdnaaGreatDoor.K.noText]]
 [(3, 1)]))
 (loopRun (f10_l0.run F) [4, 5, 6, 7] K m
 (Env.mk 63
 [(4, AV.ptr 0 0), (5, AV.int IntKind.i64 n),
 (6,
 AV.lg 0 3
 [[AV.int IntKind.i64 o.fst, AV.int IntKind.i64 (0 : Int), AV.str (ByteArray.mk #[])]]),
 (7, AV.int IntKind.i64 (IntKind.i64.wrap (i + (1 : Int))))])
 (St.mk
 [Ob.cells [AV.sl 1 f (List.drop o.snd l), AV.bool true],
 Ob.vec 1
 [AV.int IntKind.i64 o.fst, AV.int IntKind.i64 (0 : Int), AV.str (ByteArray.mk #[])]]
 [(3, 1)])))
 fun (o_1 : Int × Nat) =>
 branch (AV.bool (o.fst == (3 : Int)))
 (branch (AV.bool (YtcfedmheblbdnaaGreatDoor.K.fit (Br.sl f (List.drop o_1.snd (List.drop o.snd l)))))
 (onSome (YtcfedmheblbdnaaGreatDoor.K.getS (nR (List.drop o_1.snd (List.drop o.snd l))))
 (loopRun (f10_l0.run F) [4, 5, 6, 7] K m
 (Env.mk 63
 [(4, AV.ptr 0 0), (5, AV.int IntKind.i64 n),
 (6,
 AV.lg 0 3
 [[AV.int IntKind.i64 o.fst, AV.int IntKind.i64 o_1.fst,
 AV.str YtcfedmheblbdnaaGreatDoor.K.noText]]),
 (7, AV.int IntKind.i64 (IntKind.i64.wrap (i + (1 : Int))))])
 (St.mk
 [Ob.cells
 [AV.sl 1 f
 (List.drop (YtcfedmheblbdnaaGreatDoor.K.resT (nR (List.drop o_1.snd (List.drop o.snd l))))
 (List.drop o_1.snd (List.drop o.snd l))),
 AV.bool true],
 Ob.vec 1
 [AV.int IntKind.i64 o.fst, AV.int IntKind.i64 o_1.fst,
 AV.str YtcfedmheblbdnaaGreatDoor.K.noText]]
 [(3, 1)]))
 fun (o_2 : ByteArray × Nat) =>
 loopRun (f10_l0.run F) [4, 5, 6, 7] K m
 (Env.mk 63
 [(4, AV.ptr 0 0), (5, AV.int IntKind.i64 n),
 (6,
 AV.lg 0 3
 [[AV.int IntKind.i64 o.fst, AV.int IntKind.i64 o_1.fst, AV.str o_2.fst]]),
 (7, AV.int IntKind.i64 (IntKind.i64.wrap (i + (1 : Int))))])
 (St.mk
 [Ob.cells
 [AV.sl 1 f (List.drop o_2.snd (List.drop o_1.snd (List.drop o.snd l))),
 AV.bool false],
 Ob.vec 1 [AV.int IntKind.i64 o.fst, AV.int IntKind.i64 o_1.fst, AV.str o_2.fst]]
 [(3, 1)]))
 none)
 (loopRun (f10_l0.run F) [4, 5, 6, 7] K m
 (Env.mk 63
 [(4, AV.ptr 0 0), (5, AV.int IntKind.i64 n),
 (6,
 AV.lg 0 3
 [[AV.int IntKind.i64 o.fst, AV.int IntKind.i64 o_1.fst, AV.str (ByteArray.mk #[])]]),
 (7, AV.int IntKind.i64 (IntKind.i64.wrap (i + (1 : Int))))])
 (St.mk
 [Ob.cells [AV.sl 1 f (List.drop o_1.snd (List.drop o.snd l)), AV.bool false],
 Ob.vec 1 [AV.int IntKind.i64 o.fst, AV.int IntKind.i64 o_1.fst, AV.str (ByteArray.mk #[])]]
 [(3, 1)])))
 none)
 (branch (AV.bool (o.fst == (2 : Int)))
 (branch (AV.bool (YtcfedmheblbdnaaGreatDoor.K.fit (Br.sl f (List.drop o.snd l))))
 (onSome (YtcfedmheblbdnaaGreatDoor.K.getN (nR (List.drop o.snd l)))
 (branch (AV.bool (o.fst == (3 : Int)))
 (loopRun (f10_l0.run F) [4, 5, 6, 7] K m
 (Env.mk 63
 [(4, AV.ptr 0 0), (5, AV.int IntKind.i64 n),
 (6,
 AV.lg 0 3
 [[AV.int IntKind.i64 o.fst, AV.int IntKind.i64 (0 : Int),
 AV.str YtcfedmheblbdnaaGreatDoor.K.noText]]),
 (7, AV.int IntKind.i64 (IntKind.i64.wrap (i + (1 : Int))))])
 (St.mk
 [Ob.cells [AV.sl 1 f (List.drop o.snd l), AV.bool true],
 Ob.vec 1
 [AV.int IntKind.i64 o.fst, AV.int IntKind.i64 (0 : Int),
 AV.str YtcfedmheblbdnaaGreatDoor.K.noText]]
 [(3, 1)]))
 (loopRun (f10_l0.run F) [4, 5, 6, 7] K m
 (Env.mk 63
 [(4, AV.ptr 0 0), (5, AV.int IntKind.i64 n),
 (6,
 AV.lg 0 3
 [[AV.int IntKind.i64 o.fst, AV.int IntKind.i64 (0 : Int), AV.str (ByteArray.mk #[])]]),
 (7, AV.int IntKind.i64 (IntKind.i64.wrap (i + (1 : Int))))])
 (St.mk
 [Ob.cells [AV.sl 1 f (List.drop o.snd l), AV.bool true],
 Ob.vec 1
 [AV.int IntKind.i64 o.fst, AV.int IntKind.i64 (0 : Int), AV.str (ByteArray.mk #[])]]
 [(3, 1)])))
 fun (o_1 : Int × Nat) =>
 branch (AV.bool (o.fst == (3 : Int)))
 (branch (AV.bool (YtcfedmheblbdnaaGreatDoor.K.fit (Br.sl f (List.drop o_1.snd (List.drop o.snd l)))))
 (onSome (YtcfedmheblbdnaaGreatDoor.K.getS (nR (List.drop o_1.snd (List.drop o.snd l))))
 (loopRun (f10_l0.run F) [4, 5, 6, 7] K m
 (Env.mk 63
 [(4, AV.ptr 0 0), (5, AV.int IntKind.i64 n),
 (6,
 AV.lg 0 3
 [[AV.int IntKind.i64 o.fst, AV.int IntKind.i64 o_1.fst,
 AV.str YtcfedmheblbdnaaGreatDoor.K.noText]]),
 (7, AV.int IntKind.i64 (IntKind.i64.wrap (i + (1 : Int))))])
 (St.mk
 [Ob.cells
 [AV.sl 1 f
 (List.drop
 (YtcfedmheblbdnaaGreatDoor.K.resT (nR (List.drop o_1.snd (List.drop o.snd l))))
 (List.drop o_1.snd (List.drop o.snd l))),
 AV.bool true],
 Ob.vec 1
 [AV.int IntKind.i64 o.fst, AV.int IntKind.i64 o_1.fst,
 AV.str YtcfedmheblbdnaaGreatDoor.K.noText]]
 [(3, 1)]))
 fun (o_2 : ByteArray × Nat) =>
 loopRun (f10_l0.run F) [4, 5, 6, 7] K m
 (Env.mk 63
 [(4, AV.ptr 0 0), (5, AV.int IntKind.i64 n),
 (6,
 AV.lg 0 3
 [[AV.int IntKind.i64 o.fst, AV.int IntKind.i64 o_1.fst, AV.str o_2.fst]]),
 (7, AV.int IntKind.i64 (IntKind.i64.wrap (i + (1 : Int))))])
 (St.mk
 [Ob.cells
 [AV.sl 1 f (List.drop o_2.snd (List.drop o_1.snd (List.drop o.snd l))),
 AV.bool false],
 Ob.vec 1 [AV.int IntKind.i64 o.fst, AV.int IntKind.i64 o_1.fst, AV.str o_2.fst]]
 [(3, 1)]))
 none)
 (loopRun (f10_l0.run F) [4, 5, 6, 7] K m
 (Env.mk 63
 [(4, AV.ptr 0 0), (5, AV.int IntKind.i64 n),
 (6,
 AV.lg 0 3
 [[AV.int IntKind.i64 o.fst, AV.int IntKind.i64 o_1.fst, AV.str (ByteArray.mk #[])]]),
 (7, AV.int IntKind.i64 (IntKind.i64.wrap (i + (1 : Int))))])
 (St.mk
 [Ob.cells [AV.sl 1 f (List.drop o_1.snd (List.drop o.snd l)), AV.bool false],
 Ob.vec 1
 [AV.int IntKind.i64 o.fst, AV.int IntKind.i64 o_1.fst, AV.str (ByteArray.mk #[])]]
 [(3, 1)])))
 none)
 (branch (AV.bool (o.fst == (3 : Int)))
 (branch (AV.bool (YtcfedmheblbdnaaGreatDoor.K.fit (Br.sl f (List.drop o.snd l))))
 (onSome (YtcfedmheblbdnaaGreatDoor.K.getS (nR (List.drop o.snd l)))
 (loopRun (f10_l0.run F) [4, 5, 6, 7] K m
 (Env.mk 63
 [(4, AV.ptr 0 0), (5, AV.int IntKind.i64 n),
 (6,
 AV.lg 0 3
 [[AV.int IntKind.i64 o.fst, AV.int IntKind.i64 (0 : Int),
 AV.str YtcfedmheblbdnaaGreatDoor.K.noText]]),
 (7, AV.int IntKind.i64 (IntKind.i64.wrap (i + (1 : Int))))])
 (St.mk
 [Ob.cells
 [AV.sl 1 f
 (List.drop (YtcfedmheblbdnaaGreatDoor.K.resT (nR (List.drop o.snd l))) (List.drop o.snd l)),
 AV.bool true],
 Ob.vec 1
 [AV.int IntKind.i64 o.fst, AV.int IntKind.i64 (0 : Int),
 AV.str YtcfedmheblbdnaaGreatDoor.K.noText]]
 [(3, 1)]))
 fun (o_1 : ByteArray × Nat) =>
 loopRun (f10_l0.run F) [4, 5, 6, 7] K m
 (Env.mk 63
 [(4, AV.ptr 0 0), (5, AV.int IntKind.i64 n),
 (6,
 AV.lg 0 3
 [[AV.int IntKind.i64 o.fst, AV.int IntKind.i64 (0 : Int), AV.str o_1.fst]]),
 (7, AV.int IntKind.i64 (IntKind.i64.wrap (i + (1 : Int))))])
 (St.mk
 [Ob.cells [AV.sl 1 f (List.drop o_1.snd (List.drop o.snd l)), AV.bool false],
 Ob.vec 1 [AV.int IntKind.i64 o.fst, AV.int IntKind.i64 (0 : Int), AV.str o_1.fst]]
 [(3, 1)]))
 none)
 (loopRun (f10_l0.run F) [4, 5, 6, 7] K m
 (Env.mk 63
 [(4, AV.ptr 0 0), (5, AV.int IntKind.i64 n),
 (6,
 AV.lg 0 3
 [[AV.int IntKind.i64 o.fst, AV.int IntKind.i64 (0 : Int), AV.str (ByteArray.mk #[])]]),
 (7, AV.int IntKind.i64 (IntKind.i64.wrap (i + (1 : Int))))])
 (St.mk
 [Ob.cells [AV.sl 1 f (List.drop o.snd l), AV.bool false],
 Ob.vec 1 [AV.int IntKind.i64 o.fst, AV.int IntKind.i64 (0 : Int), AV.str (ByteArray.mk #[])]]
 [(3, 1)])))))
 none)
 (K (AX.exit 0)
 (Env.mk 63 [(4, AV.ptr 0 0), (6, AV.sl 3 true [])])
 (St.mk [Ob.cells [AV.sl 1 f l, AV.bool false], Ob.nov 0] [])) := by kernel_rfl

theorem rde_outg0 (F : Nat) (f : Bool) (l : List (List AV)) :
 ((Cont.block 0 (Cont.then (f10_r0.run F (f10.leaveK Fun.done)) (f10.leaveK Fun.done))) (.exit 0) (Env.mk 63 [(4, .ptr 0 0), (6, AV.sl 3 true [])]) ⟨[.cells [.sl 1 f l, .bool false], .nov 0], []⟩ : Ans) =
 branch (AV.bool (decide ((↑l.length : Int) > (0 : Int))))
 (some
 (Fin.ret (AV.tup [AV.nilsl, AV.bool false]),
 St.mk [Ob.cells [AV.sl 1 f l, AV.bool false], Ob.nov 0] []))
 (some
 (Fin.ret (AV.tup [AV.sl 3 true [], AV.bool true]),
 St.mk [Ob.cells [AV.sl 1 f l, AV.bool false], Ob.nov 0] [])) := by kernel_rfl

theorem rde_b0 (F m : Nat) (K : Cont) (n i : Int) (f : Bool) (l : List (List AV)) :
 (loopRun (f10_l0.run F) [4, 5, 6, 7] K m.succ (Env.mk 63 [(4, .ptr 0 0), (5, .int .i64 n), (6, AV.sl 3 true []), (7, .int .i64 i)]) ⟨[.cells [.sl 1 f l, .bool true], .nov 0], []⟩ : Ans) =
 branch (AV.bool (decide (i < n)))
 (loopRun (f10_l0.run F) [4, 5, 6, 7] K m
 (Env.mk 63
 [(4, AV.ptr 0 0), (5, AV.int IntKind.i64 n),
 (6,
 AV.lg 0 3
 [[AV.int IntKind.i64 (0 : Int), AV.int IntKind.i64 (0 : Int), AV.str (ByteArray.mk #[])]]),
 (7, AV.int IntKind.i64 (IntKind.i64.wrap (i + (1 : Int))))])
 (St.mk
 [Ob.cells [AV.sl 1 f l, AV.bool true],
 Ob.vec 1 [AV.int IntKind.i64 (0 : Int), AV.int IntKind.i64 (0 : Int), AV.str (ByteArray.mk #[])]]
 [(3, 1)]))
 (K (AX.exit 0)
 (Env.mk 63 [(4, AV.ptr 0 0), (6, AV.sl 3 true [])])
 (St.mk [Ob.cells [AV.sl 1 f l, AV.bool true], Ob.nov 0] [])) := by kernel_rfl

theorem rde_outb0 (F : Nat) (f : Bool) (l : List (List AV)) :
 ((Cont.block 0 (Cont.then (f10_r0.run F (f10.leaveK Fun.done)) (f10.leaveK Fun.done))) (.exit 0) (Env.mk 63 [(4, .ptr 0 0), (6, AV.sl 3 true [])]) ⟨[.cells [.sl 1 f l, .bool true], .nov 0], []⟩ : Ans) =
 some
 (Fin.ret (AV.tup [AV.nilsl, AV.bool false]),
 St.mk [Ob.cells [AV.sl 1 f l, AV.bool true], Ob.nov 0] []) := by kernel_rfl

theorem rde_g1 (F m : Nat) (K : Cont) (n i : Int) (f : Bool) (l : List (List AV)) (lo : List (List AV)) (w : Nat) (cs : List AV) :
 (loopRun (f10_l0.run F) [4, 5, 6, 7] K m.succ (Env.mk 63 [(4, .ptr 0 0), (5, .int .i64 n), (6, .lg 0 3 lo), (7, .int .i64 i)]) ⟨[.cells [.sl 1 f l, .bool false], .vec w cs], [(3, lo.length)]⟩ : Ans) =
 branch (AV.bool (decide (i < n)))
 (branch (AV.bool (YtcfedmheblbdnaaGreatDoor.K.fit (Br.sl f l)))
 (onSome (YtcfedmheblbdnaaGreatDoor.K.getC (3 : Int) (nR l))
 (branch (AV.bool ((w + 1).beq (w + 1)))
 (branch (AV.bool ((w + 1).beq (w + 1)))
 (branch (AV.bool ((w + 1).beq (w + 1)))
 (branch (AV.bool ((w + 1).beq (w + 1)))
 (branch (AV.bool ((w + 1).beq (w + 1)))
 (if
 some (3, lo.length) = some (3, lo.length) ∧
 (lo.length + 1) * 32 ≤ 140737488355328 then
 loopRun (f10_l0.run F) [4, 5, 6, 7] K m
 (Env.mk 63
 [(4, AV.ptr 0 0), (5, AV.int IntKind.i64 n),
 (6,
 AV.lg 0 3
 (lo ++
 [[AV.int IntKind.i64 (0 : Int), AV.int IntKind.i64 (0 : Int),
 AV.str (ByteArray.mk #[])]])),
 (7, AV.int IntKind.i64 (IntKind.i64.wrap (i + (1 : Int))))])
 (St.mk
 [Ob.cells
 [AV.sl 1 f (List.drop (YtcfedmheblbdnaaGreatDoor.K.resT (nR l)) l), AV.bool true],
 Ob.vec (w + 1)
 [AV.int IntKind.i64 (0 : Int), AV.int IntKind.i64 (0 : Int), AV.str (ByteArray.mk #[])]]
 [(3, lo.length + 1)])
 else none)
 none)
 none)
 none)
 none)
 none)
 fun (o : Int × Nat) =>
 branch (AV.bool ((w + 1).beq (w + 1)))
 (branch (AV.bool ((w + 1).beq (w + 1)))
 (branch (AV.bool (o.fst == (1 : Int)))
 (branch (AV.bool (YtcfedmheblbdnaaGreatDoor.K.fit (Br.sl f (List.drop o.snd l))))
 (onSome (YtcfedmheblbdnaaGreatDoor.K.getN (nR (List.drop o.snd l)))
 (branch (AV.bool ((w + 1).beq (w + 1)))
 (branch (AV.bool ((w + 1).beq (w + 1)))
 (branch (AV.bool (o.fst == (3 : Int)))
 (branch (AV.bool ((w + 1).beq (w + 1)))
 (branch (AV.bool ((w + 1).beq (w + 1)))
 (if
 some (3, lo.length) = some (3, lo.length) ∧
 (lo.length + 1) * 32 ≤ 140737488355328 then
 loopRun (f10_l0.run F) [4, 5, 6, 7] K m
 (Env.mk 63
 [(4, AV.ptr 0 0), (5, AV.int IntKind.i64 n),
 (6,
 AV.lg 0 3
 (lo ++
 [[AV.int IntKind.i64 o.fst, AV.int IntKind.i64 (0 : Int),
 AV.str YtcfedmheblbdnaaGreatDoor.K.noText]])),
 (7, AV.int IntKind.i64 (IntKind.i64.wrap (i + (1 : Int))))])
 (St.mk
 [Ob.cells [AV.sl 1 f (List.drop o.snd l), AV.bool true],
 Ob.vec (w + 1)
 [AV.int IntKind.i64 o.fst, AV.int IntKind.i64 (0 : Int),
 AV.str YtcfedmheblbdnaaGreatDoor.K.noText]]
 [(3, lo.length + 1)])
 else none)
 none)
 none)
 (branch (AV.bool ((w + 1).beq (w + 1)))
 (if
 some (3, lo.length) = some (3, lo.length) ∧
 (lo.length + 1) * 32 ≤ 140737488355328 then
 loopRun (f10_l0.run F) [4, 5, 6, 7] K m
 (Env.mk 63
 [(4, AV.ptr 0 0), (5, AV.int IntKind.i64 n),
 (6,
 AV.lg 0 3
 (lo ++
 [[AV.int IntKind.i64 o.fst, AV.int IntKind.i64 (0 : Int),
 AV.str (ByteArray.mk #[])]])),
 (7, AV.int IntKind.i64 (IntKind.i64.wrap (i + (1 : Int))))])
 (St.mk
 [Ob.cells [AV.sl 1 f (List.drop o.snd l), AV.bool true],
 Ob.vec (w + 1)
 [AV.int IntKind.i64 o.fst, AV.int IntKind.i64 (0 : Int), AV.str (ByteArray.mk #[])]]
 [(3, lo.length + 1)])
 else none)
 none))
 none)
 none)
 fun (o_1 : Int × Nat) =>
 branch (AV.bool ((w + 1).beq (w + 1)))
 (branch (AV.bool ((w + 1).beq (w + 1)))
 (branch (AV.bool (o.fst == (3 : Int)))
 (branch
 (AV.bool (YtcfedmheblbdnaaGreatDoor.K.fit (Br.sl f (List.drop o_1.snd (List.drop o.snd l)))))
 (onSome (YtcfedmheblbdnaaGreatDoor.K.getS (nR (List.drop o_1.snd (List.drop o.snd l))))
 (branch (AV.bool ((w + 1).beq (w + 1)))
 (branch (AV.bool ((w + 1).beq (w + 1)))
 (if
 some (3, lo.length) = some (3, lo.length) ∧
 (lo.length + 1) * 32 ≤ 140737488355328 then
 loopRun (f10_l0.run F) [4, 5, 6, 7] K m
 (Env.mk 63
 [(4, AV.ptr 0 0), (5, AV.int IntKind.i64 n),
 (6,
 AV.lg 0 3
 (lo ++
 [[AV.int IntKind.i64 o.fst, AV.int IntKind.i64 o_1.fst,
 AV.str YtcfedmheblbdnaaGreatDoor.K.noText]])),
 (7, AV.int IntKind.i64 (IntKind.i64.wrap (i + (1 : Int))))])
 (St.mk
 [Ob.cells
 [AV.sl 1 f
 (List.drop
 (YtcfedmheblbdnaaGreatDoor.K.resT
 (nR (List.drop o_1.snd (List.drop o.snd l))))
 (List.drop o_1.snd (List.drop o.snd l))),
 AV.bool true],
 Ob.vec (w + 1)
 [AV.int IntKind.i64 o.fst, AV.int IntKind.i64 o_1.fst,
 AV.str YtcfedmheblbdnaaGreatDoor.K.noText]]
 [(3, lo.length + 1)])
 else none)
 none)
 none)
 fun (o_2 : ByteArray × Nat) =>
 branch (AV.bool ((w + 1).beq (w + 1)))
 (branch (AV.bool ((w + 1).beq (w + 1)))
 (if
 some (3, lo.length) = some (3, lo.length) ∧
 (lo.length + 1) * 32 ≤ 140737488355328 then
 loopRun (f10_l0.run F) [4, 5, 6, 7] K m
 (Env.mk 63
 [(4, AV.ptr 0 0), (5, AV.int IntKind.i64 n),
 (6,
 AV.lg 0 3
 (lo ++
 [[AV.int IntKind.i64 o.fst, AV.int IntKind.i64 o_1.fst, AV.str o_2.fst]])),
 (7, AV.int IntKind.i64 (IntKind.i64.wrap (i + (1 : Int))))])
 (St.mk
 [Ob.cells
 [AV.sl 1 f (List.drop o_2.snd (List.drop o_1.snd (List.drop o.snd l))),
 AV.bool false],
 Ob.vec (w + 1)
 [AV.int IntKind.i64 o.fst, AV.int IntKind.i64 o_1.fst, AV.str o_2.fst]]
 [(3, lo.length + 1)])
 else none)
 none)
 none)
 none)
 (branch (AV.bool ((w + 1).beq (w + 1)))
 (if
 some (3, lo.length) = some (3, lo.length) ∧
 (lo.length + 1) * 32 ≤ 140737488355328 then
 loopRun (f10_l0.run F) [4, 5, 6, 7] K m
 (Env.mk 63
 [(4, AV.ptr 0 0), (5, AV.int IntKind.i64 n),
 (6,
 AV.lg 0 3
 (lo ++
 [[AV.int IntKind.i64 o.fst, AV.int IntKind.i64 o_1.fst,
 AV.str (ByteArray.mk #[])]])),
 (7, AV.int IntKind.i64 (IntKind.i64.wrap (i + (1 : Int))))])
 (St.mk
 [Ob.cells [AV.sl 1 f (List.drop o_1.snd (List.drop o.snd l)), AV.bool false],
 Ob.vec (w + 1)
 [AV.int IntKind.i64 o.fst, AV.int IntKind.i64 o_1.fst, AV.str (ByteArray.mk #[])]]
 [(3, lo.length + 1)])
 else none)
 none))
 none)
 none)
 none)
 (branch (AV.bool ((w + 1).beq (w + 1)))
 (branch (AV.bool (o.fst == (2 : Int)))
 (branch (AV.bool (YtcfedmheblbdnaaGreatDoor.K.fit (Br.sl f (List.drop o.snd l))))
 (onSome (YtcfedmheblbdnaaGreatDoor.K.getN (nR (List.drop o.snd l)))
 (branch (AV.bool ((w + 1).beq (w + 1)))
 (branch (AV.bool ((w + 1).beq (w + 1)))
 (branch (AV.bool (o.fst == (3 : Int)))
 (branch (AV.bool ((w + 1).beq (w + 1)))
 (branch (AV.bool ((w + 1).beq (w + 1)))
 (if
 some (3, lo.length) = some (3, lo.length) ∧
 (lo.length + 1) * 32 ≤ 140737488355328 then
 loopRun (f10_l0.run F) [4, 5, 6, 7] K m
 (Env.mk 63
 [(4, AV.ptr 0 0), (5, AV.int IntKind.i64 n),
 (6,
 AV.lg 0 3
 (lo ++
 [[AV.int IntKind.i64 o.fst, AV.int IntKind.i64 (0 : Int),
 AV.str YtcfedmheblbdnaaGreatDoor.K.noText]])),
 (7, AV.int IntKind.i64 (IntKind.i64.wrap (i + (1 : Int))))])
 (St.mk
 [Ob.cells [AV.sl 1 f (List.drop o.snd l), AV.bool true],
 Ob.vec (w + 1)
 [AV.int IntKind.i64 o.fst, AV.int IntKind.i64 (0 : Int),
 AV.str YtcfedmheblbdnaaGreatDoor.K.noText]]
 [(3, lo.length + 1)])
 else none)
 none)
 none)
 (branch (AV.bool ((w + 1).beq (w + 1)))
 (if
 some (3, lo.length) = some (3, lo.length) ∧
 (lo.length + 1) * 32 ≤ 140737488355328 then
 loopRun (f10_l0.run F) [4, 5, 6, 7] K m
 (Env.mk 63
 [(4, AV.ptr 0 0), (5, AV.int IntKind.i64 n),
 (6,
 AV.lg 0 3
 (lo ++
 [[AV.int IntKind.i64 o.fst, AV.int IntKind.i64 (0 : Int),
 AV.str (ByteArray.mk #[])]])),
 (7, AV.int IntKind.i64 (IntKind.i64.wrap (i + (1 : Int))))])
 (St.mk
 [Ob.cells [AV.sl 1 f (List.drop o.snd l), AV.bool true],
 Ob.vec (w + 1)
 [AV.int IntKind.i64 o.fst, AV.int IntKind.i64 (0 : Int),
 AV.str (ByteArray.mk #[])]]
 [(3, lo.length + 1)])
 else none)
 none))
 none)
 none)
 fun (o_1 : Int × Nat) =>
 branch (AV.bool ((w + 1).beq (w + 1)))
 (branch (AV.bool ((w + 1).beq (w + 1)))
 (branch (AV.bool (o.fst == (3 : Int)))
 (branch
 (AV.bool
 (YtcfedmheblbdnaaGreatDoor.K.fit (Br.sl f (List.drop o_1.snd (List.drop o.snd l)))))
 (onSome (YtcfedmheblbdnaaGreatDoor.K.getS (nR (List.drop o_1.snd (List.drop o.snd l))))
 (branch (AV.bool ((w + 1).beq (w + 1)))
 (branch (AV.bool ((w + 1).beq (w + 1)))
 (if
 some (3, lo.length) = some (3, lo.length) ∧
 (lo.length + 1) * 32 ≤ 140737488355328 then
 loopRun (f10_l0.run F) [4, 5, 6, 7] K m
 (Env.mk 63
 [(4, AV.ptr 0 0), (5, AV.int IntKind.i64 n),
 (6,
 AV.lg 0 3
 (lo ++
 [[AV.int IntKind.i64 o.fst, AV.int IntKind.i64 o_1.fst,
 AV.str YtcfedmheblbdnaaGreatDoor.K.noText]])),
 (7, AV.int IntKind.i64 (IntKind.i64.wrap (i + (1 : Int))))])
 (St.mk
 [Ob.cells
 [AV.sl 1 f
 (List.drop
 (YtcfedmheblbdnaaGreatDoor.K.resT
 (nR (List.drop o_1.snd (List.drop o.snd l))))
 (List.drop o_1.snd (List.drop o.snd l))),
 AV.bool true],
 Ob.vec (w + 1)
 [AV.int IntKind.i64 o.fst, AV.int IntKind.i64 o_1.fst,
 AV.str YtcfedmheblbdnaaGreatDoor.K.noText]]
 [(3, lo.length + 1)])
 else none)
 none)
 none)
 fun (o_2 : ByteArray × Nat) =>
 branch (AV.bool ((w + 1).beq (w + 1)))
 (branch (AV.bool ((w + 1).beq (w + 1)))
 (if
 some (3, lo.length) = some (3, lo.length) ∧
 (lo.length + 1) * 32 ≤ 140737488355328 then
 loopRun (f10_l0.run F) [4, 5, 6, 7] K m
 (Env.mk 63
 [(4, AV.ptr 0 0), (5, AV.int IntKind.i64 n),
 (6,
 AV.lg 0 3
 (lo ++
 [[AV.int IntKind.i64 o.fst, AV.int IntKind.i64 o_1.fst,
 AV.str o_2.fst]])),
 (7, AV.int IntKind.i64 (IntKind.i64.wrap (i + (1 : Int))))])
 (St.mk
 [Ob.cells
 [AV.sl 1 f
 (List.drop o_2.snd (List.drop o_1.snd (List.drop o.snd l))),
 AV.bool false],
 Ob.vec (w + 1)
 [AV.int IntKind.i64 o.fst, AV.int IntKind.i64 o_1.fst, AV.str o_2.fst]]
 [(3, lo.length + 1)])
 else none)
 none)
 none)
 none)
 (branch (AV.bool ((w + 1).beq (w + 1)))
 (if
 some (3, lo.length) = some (3, lo.length) ∧
 (lo.length + 1) * 32 ≤ 140737488355328 then
 loopRun (f10_l0.run F) [4, 5, 6, 7] K m
 (Env.mk 63
 [(4, AV.ptr 0 0), (5, AV.int IntKind.i64 n),
 (6,
 AV.lg 0 3
 (lo ++
 [[AV.int IntKind.i64 o.fst, AV.int IntKind.i64 o_1.fst,
 AV.str (ByteArray.mk #[])]])),
 (7, AV.int IntKind.i64 (IntKind.i64.wrap (i + (1 : Int))))])
 (St.mk
 [Ob.cells [AV.sl 1 f (List.drop o_1.snd (List.drop o.snd l)), AV.bool false],
 Ob.vec (w + 1)
 [AV.int IntKind.i64 o.fst, AV.int IntKind.i64 o_1.fst, AV.str (ByteArray.mk #[])]]
 [(3, lo.length + 1)])
 else none)
 none))
 none)
 none)
 none)
 (branch (AV.bool ((w + 1).beq (w + 1)))
 (branch (AV.bool (o.fst == (3 : Int)))
 (branch (AV.bool (YtcfedmheblbdnaaGreatDoor.K.fit (Br.sl f (List.drop o.snd l))))
 (onSome (YtcfedmheblbdnaaGreatDoor.K.getS (nR (List.drop o.snd l)))
 (branch (AV.bool ((w + 1).beq (w + 1)))
 (branch (AV.bool ((w + 1).beq (w + 1)))
 (if
 some (3, lo.length) = some (3, lo.length) ∧
 (lo.length + 1) * 32 ≤ 140737488355328 then
 loopRun (f10_l0.run F) [4, 5, 6, 7] K m
 (Env.mk 63
 [(4, AV.ptr 0 0), (5, AV.int IntKind.i64 n),
 (6,
 AV.lg 0 3
 (lo ++
 [[AV.int IntKind.i64 o.fst, AV.int IntKind.i64 (0 : Int),
 AV.str YtcfedmheblbdnaaGreatDoor.K.noText]])),
 (7, AV.int IntKind.i64 (IntKind.i64.wrap (i + (1 : Int))))])
 (St.mk
 [Ob.cells
 [AV.sl 1 f
 (List.drop (YtcfedmheblbdnaaGreatDoor.K.resT (nR (List.drop o.snd l)))
 (List.drop o.snd l)),
 AV.bool true],
 Ob.vec (w + 1)
 [AV.int IntKind.i64 o.fst, AV.int IntKind.i64 (0 : Int),
 AV.str YtcfedmheblbdnaaGreatDoor.K.noText]]
 [(3, lo.length + 1)])
 else none)
 none)
 none)
 fun (o_1 : ByteArray × Nat) =>
 branch (AV.bool ((w + 1).beq (w + 1)))
 (branch (AV.bool ((w + 1).beq (w + 1)))
 (if
 some (3, lo.length) = some (3, lo.length) ∧
 (lo.length + 1) * 32 ≤ 140737488355328 then
 loopRun (f10_l0.run F) [4, 5, 6, 7] K m
 (Env.mk 63
 [(4, AV.ptr 0 0), (5, AV.int IntKind.i64 n),
 (6,
 AV.lg 0 3
 (lo ++
 [[AV.int IntKind.i64 o.fst, AV.int IntKind.i64 (0 : Int), AV.str o_1.fst]])),
 (7, AV.int IntKind.i64 (IntKind.i64.wrap (i + (1 : Int))))])
 (St.mk
 [Ob.cells [AV.sl 1 f (List.drop o_1.snd (List.drop o.snd l)), AV.bool false],
 Ob.vec (w + 1)
 [AV.int IntKind.i64 o.fst, AV.int IntKind.i64 (0 : Int), AV.str o_1.fst]]
 [(3, lo.length + 1)])
 else none)
 none)
 none)
 none)
 (branch (AV.bool ((w + 1).beq (w + 1)))
 (if
 some (3, lo.length) = some (3, lo.length) ∧
 (lo.length + 1) * 32 ≤ 140737488355328 then
 loopRun (f10_l0.run F) [4, 5, 6, 7] K m
 (Env.mk 63
 [(4, AV.ptr 0 0), (5, AV.int IntKind.i64 n),
 (6,
 AV.lg 0 3
 (lo ++
 [[AV.int IntKind.i64 o.fst, AV.int IntKind.i64 (0 : Int),
 AV.str (ByteArray.mk #[])]])),
 (7, AV.int IntKind.i64 (IntKind.i64.wrap (i + (1 : Int))))])
 (St.mk
 [Ob.cells [AV.sl 1 f (List.drop o.snd l), AV.bool false],
 Ob.vec (w + 1)
 [AV.int IntKind.i64 o.fst, AV.int IntKind.i64 (0 : Int), AV.str (ByteArray.mk #[])]]
 [(3, lo.length + 1)])
 else none)
 none))
 none))
 none))
 none)
 none)
 none)
 (K (AX.exit 0)
 (Env.mk 63 [(4, AV.ptr 0 0), (6, AV.lg 0 3 lo)])
 (St.mk [Ob.cells [AV.sl 1 f l, AV.bool false], Ob.vec w cs] [(3, lo.length)])) := by kernel_rfl

theorem rde_outg1 (F : Nat) (f : Bool) (l : List (List AV)) (lo : List (List AV)) (w : Nat) (cs : List AV) :
 ((Cont.block 0 (Cont.then (f10_r0.run F (f10.leaveK Fun.done)) (f10.leaveK Fun.done))) (.exit 0) (Env.mk 63 [(4, .ptr 0 0), (6, .lg 0 3 lo)]) ⟨[.cells [.sl 1 f l, .bool false], .vec w cs], [(3, lo.length)]⟩ : Ans) =
 branch (AV.bool (decide ((↑l.length : Int) > (0 : Int))))
 (some
 (Fin.ret (AV.tup [AV.nilsl, AV.bool false]),
 St.mk [Ob.cells [AV.sl 1 f l, AV.bool false], Ob.vec w cs] [(3, lo.length)]))
 (branch (AV.bool (okV lo))
 (branch (AV.bool !rrV lo)
 (some
 (Fin.ret (AV.tup [AV.nilsl, AV.bool false]),
 St.mk [Ob.cells [AV.sl 1 f l, AV.bool false], Ob.vec w cs] [(3, lo.length)]))
 (some
 (Fin.ret (AV.tup [AV.lg 0 3 lo, AV.bool true]),
 St.mk [Ob.cells [AV.sl 1 f l, AV.bool false], Ob.vec w cs] [(3, lo.length)])))
 none) := by kernel_rfl

theorem rde_b1 (F m : Nat) (K : Cont) (n i : Int) (f : Bool) (l : List (List AV)) (lo : List (List AV)) (w : Nat) (cs : List AV) :
 (loopRun (f10_l0.run F) [4, 5, 6, 7] K m.succ (Env.mk 63 [(4, .ptr 0 0), (5, .int .i64 n), (6, .lg 0 3 lo), (7, .int .i64 i)]) ⟨[.cells [.sl 1 f l, .bool true], .vec w cs], [(3, lo.length)]⟩ : Ans) =
 branch (AV.bool (decide (i < n)))
 (branch (AV.bool ((w + 1).beq (w + 1)))
 (branch (AV.bool ((w + 1).beq (w + 1)))
 (branch (AV.bool ((w + 1).beq (w + 1)))
 (branch (AV.bool ((w + 1).beq (w + 1)))
 (branch (AV.bool ((w + 1).beq (w + 1)))
 (if
 some (3, lo.length) = some (3, lo.length) ∧
 (lo.length + 1) * 32 ≤ 140737488355328 then
 loopRun (f10_l0.run F) [4, 5, 6, 7] K m
 (Env.mk 63
 [(4, AV.ptr 0 0), (5, AV.int IntKind.i64 n),
 (6,
 AV.lg 0 3
 (lo ++
 [[AV.int IntKind.i64 (0 : Int), AV.int IntKind.i64 (0 : Int), AV.str (ByteArray.mk #[])]])),
 (7, AV.int IntKind.i64 (IntKind.i64.wrap (i + (1 : Int))))])
 (St.mk
 [Ob.cells [AV.sl 1 f l, AV.bool true],
 Ob.vec (w + 1)
 [AV.int IntKind.i64 (0 : Int), AV.int IntKind.i64 (0 : Int), AV.str (ByteArray.mk #[])]]
 [(3, lo.length + 1)])
 else none)
 none)
 none)
 none)
 none)
 none)
 (K (AX.exit 0)
 (Env.mk 63 [(4, AV.ptr 0 0), (6, AV.lg 0 3 lo)])
 (St.mk [Ob.cells [AV.sl 1 f l, AV.bool true], Ob.vec w cs] [(3, lo.length)])) := by kernel_rfl

theorem rde_outb1 (F : Nat) (f : Bool) (l : List (List AV)) (lo : List (List AV)) (w : Nat) (cs : List AV) :
 ((Cont.block 0 (Cont.then (f10_r0.run F (f10.leaveK Fun.done)) (f10.leaveK Fun.done))) (.exit 0) (Env.mk 63 [(4, .ptr 0 0), (6, .lg 0 3 lo)]) ⟨[.cells [.sl 1 f l, .bool true], .vec w cs], [(3, lo.length)]⟩ : Ans) =
 some
 (Fin.ret (AV.tup [AV.nilsl, AV.bool false]),
 St.mk [Ob.cells [AV.sl 1 f l, AV.bool true], Ob.vec w cs] [(3, lo.length)]) := by kernel_rfl

end Go.Proofs.YtcfedmheblbdnaaGreatDoor.V

/- Values: the row of bytes: the reference's Decode, as a callee. -/
set_option linter.unusedVariables false
set_option linter.unusedSimpArgs false
namespace Go.Proofs.YtcfedmheblbdnaaGreatDoor.V
open Go Go.V Go.RowKit

def outR (lo : List Va) : AV := match lo with
  | [] => .sl 3 true []
  | x :: r => .lg 0 3 (cellsV (x :: r))
def regR (lo : List Va) (w : Nat) (cs : List AV) : Ob := match lo with
  | [] => .nov 0
  | _ :: _ => .vec w cs
theorem outR_snoc (lo : List Va) (v : Va) : outR (lo ++ [v]) = .lg 0 3 (cellsV lo ++ [v.cells]) := by
  cases lo with
  | nil => rfl
  | cons x r => show AV.lg 0 3 (cellsV (x :: (r ++ [v]))) = _; simp [cellsV]
theorem regR_snoc (lo : List Va) (v : Va) (w : Nat) (cs : List AV) : regR (lo ++ [v]) w cs = .vec w cs := by
  cases lo <;> rfl
def rdeE (n i : Int) (lo : List Va) : Env := Env.mk 63 [(4, .ptr 0 0), (5, .int .i64 n), (6, outR lo), (7, .int .i64 i)]
def rdeS (f b : Bool) (l : List (List AV)) (lo : List Va) (w : Nat) (cs : List AV) : St := ⟨[.cells [.sl 1 f l, .bool b], regR lo w cs], outT lo⟩
noncomputable def rdeK (F : Nat) : Cont := Cont.block 0 (Cont.then (f10_r0.run F (f10.leaveK Fun.done)) (f10.leaveK Fun.done))
theorem rde_gstep (F m : Nat) (K' : Cont) (f : Bool) (l : List (List AV)) (hf : K.fit (.sl f l) = true) (lo : List Va) (w : Nat) (cs : List AV) (n : Int) (i : Nat) (hi : (i : Int) < n) (hn : i ≤ 1000) (hlo : lo.length ≤ 1000) :
    ∃ v l' b w' cs', loopRun (f10_l0.run F) [4, 5, 6, 7] K' m.succ (rdeE n (i : Nat) lo) (rdeS f false l lo w cs) = loopRun (f10_l0.run F) [4, 5, 6, 7] K' m (rdeE n ((i + 1 : Nat) : Int) (lo ++ [v])) (rdeS f b l' (lo ++ [v]) w' cs')
      ∧ K.fit (.sl f l') = true ∧ match (rdV l).2 with
        | some l2 => b = false ∧ l' = l2 ∧ v = (rdV l).1
        | none => b = true := by
  have hw : IntKind.i64.wrap ((i : Int) + 1) = ((i + 1 : Nat) : Int) := by rw [wrapS (by omega) (by omega)]; omega
  have fitl : ∀ k, K.fit (.sl f (l.drop k)) = true := fit_drop hf
  simp only [rdeE, rdeS, outR_snoc, regR_snoc, outT_snoc]
  unfold rdV
  cases lo with
  | nil =>
    rw [outR, regR, outT, rde_g0, branch_of (decide_eq_true hi), branch_of hf, hw]
    cases hg : K.getC 3 (nR l) with
    | none => exact ⟨⟨0, 0, noS⟩, _, true, _, _, rfl, fitl _, rfl⟩
    | some o =>
      simp only [onSome]
      cases h1 : o.1 == 1 with
      | true =>
        have h3 : (o.1 == 3) = false := by rw [beq_iff_eq] at h1; rw [h1]; rfl
        rw [Bool.true_or, branch_true, branch_of (fitl _)]
        simp only [h3, branch_false, cond_true]
        cases K.getN (nR (l.drop o.2)) with
        | none => exact ⟨⟨o.1, 0, noS⟩, _, true, _, _, rfl, fitl _, rfl⟩
        | some p => exact ⟨⟨o.1, p.1, noS⟩, _, false, _, _, rfl, fit_drop (fitl _) _, rfl, rfl, rfl⟩
      | false =>
        rw [Bool.false_or, branch_false]
        cases h2 : o.1 == 2 with
        | true =>
          have h3 : (o.1 == 3) = false := by rw [beq_iff_eq] at h2; rw [h2]; rfl
          rw [branch_true, branch_of (fitl _)]
          simp only [h3, branch_false, cond_true]
          cases K.getN (nR (l.drop o.2)) with
          | none => exact ⟨⟨o.1, 0, noS⟩, _, true, _, _, rfl, fitl _, rfl⟩
          | some p => exact ⟨⟨o.1, p.1, noS⟩, _, false, _, _, rfl, fit_drop (fitl _) _, rfl, rfl, rfl⟩
        | false =>
          rw [branch_false]
          simp only [cond_false]
          cases h3 : o.1 == 3 with
          | true =>
            rw [branch_true, branch_of (fitl _)]
            simp only [cond_true]
            cases K.getS (nR (l.drop o.2)) with
            | none => exact ⟨⟨o.1, 0, noS⟩, _, true, _, _, rfl, fit_drop (fitl _) _, rfl⟩
            | some p => exact ⟨⟨o.1, 0, p.1⟩, _, false, _, _, rfl, fit_drop (fitl _) _, rfl, rfl, rfl⟩
          | false => exact ⟨⟨o.1, 0, noS⟩, _, false, _, _, rfl, fitl _, rfl, rfl, rfl⟩
  | cons x r =>
    have hc : ((cellsV (x :: r)).length + 1) * 32 ≤ 140737488355328 := by rw [cellsV_len]; omega
    rw [outR, regR, outT, rde_g1, branch_of (decide_eq_true hi), branch_of hf, hw]
    simp only [hc, and_self, if_true, show (w + 1).beq (w + 1) = true from Nat.beq_refl _, branch_true, ← cellsV_len]
    cases hg : K.getC 3 (nR l) with
    | none => exact ⟨⟨0, 0, noS⟩, _, true, _, _, rfl, fitl _, rfl⟩
    | some o =>
      simp only [onSome]
      cases h1 : o.1 == 1 with
      | true =>
        have h3 : (o.1 == 3) = false := by rw [beq_iff_eq] at h1; rw [h1]; rfl
        rw [Bool.true_or, branch_true, branch_of (fitl _)]
        simp only [h3, branch_false, cond_true]
        cases K.getN (nR (l.drop o.2)) with
        | none => exact ⟨⟨o.1, 0, noS⟩, _, true, _, _, rfl, fitl _, rfl⟩
        | some p => exact ⟨⟨o.1, p.1, noS⟩, _, false, _, _, rfl, fit_drop (fitl _) _, rfl, rfl, rfl⟩
      | false =>
        rw [Bool.false_or, branch_false]
        cases h2 : o.1 == 2 with
        | true =>
          have h3 : (o.1 == 3) = false := by rw [beq_iff_eq] at h2; rw [h2]; rfl
          rw [branch_true, branch_of (fitl _)]
          simp only [h3, branch_false, cond_true]
          cases K.getN (nR (l.drop o.2)) with
          | none => exact ⟨⟨o.1, 0, noS⟩, _, true, _, _, rfl, fitl _, rfl⟩
          | some p => exact ⟨⟨o.1, p.1, noS⟩, _, false, _, _, rfl, fit_drop (fitl _) _, rfl, rfl, rfl⟩
        | false =>
          rw [branch_false]
          simp only [cond_false]
          cases h3 : o.1 == 3 with
          | true =>
            rw [branch_true, branch_of (fitl _)]
            simp only [cond_true]
            cases K.getS (nR (l.drop o.2)) with
            | none => exact ⟨⟨o.1, 0, noS⟩, _, true, _, _, rfl, fit_drop (fitl _) _, rfl⟩
            | some p => exact ⟨⟨o.1, 0, p.1⟩, _, false, _, _, rfl, fit_drop (fitl _) _, rfl, rfl, rfl⟩
          | false => exact ⟨⟨o.1, 0, noS⟩, _, false, _, _, rfl, fitl _, rfl, rfl, rfl⟩
theorem rde_bstep (F m : Nat) (K' : Cont) (f : Bool) (l : List (List AV)) (lo : List Va) (w : Nat) (cs : List AV) (n : Int) (i : Nat) (hi : (i : Int) < n) (hn : i ≤ 1000) (hlo : lo.length ≤ 1000) :
    ∃ v w' cs', loopRun (f10_l0.run F) [4, 5, 6, 7] K' m.succ (rdeE n (i : Nat) lo) (rdeS f true l lo w cs) = loopRun (f10_l0.run F) [4, 5, 6, 7] K' m (rdeE n ((i + 1 : Nat) : Int) (lo ++ [v])) (rdeS f true l (lo ++ [v]) w' cs') := by
  have hw : IntKind.i64.wrap ((i : Int) + 1) = ((i + 1 : Nat) : Int) := by rw [wrapS (by omega) (by omega)]; omega
  simp only [rdeE, rdeS, outR_snoc, regR_snoc, outT_snoc]
  cases lo with
  | nil =>
    rw [outR, regR, outT, rde_b0, branch_of (decide_eq_true hi), hw]
    exact ⟨⟨0, 0, noS⟩, _, _, rfl⟩
  | cons x r =>
    have hc : ((cellsV (x :: r)).length + 1) * 32 ≤ 140737488355328 := by rw [cellsV_len]; omega
    rw [outR, regR, outT, rde_b1, branch_of (decide_eq_true hi), hw]
    simp only [hc, and_self, if_true, show (w + 1).beq (w + 1) = true from Nat.beq_refl _, branch_true, ← cellsV_len]
    exact ⟨⟨0, 0, noS⟩, _, _, rfl⟩
end Go.Proofs.YtcfedmheblbdnaaGreatDoor.V

/- Values: the reference's Decode, as a callee. -/
set_option linter.unusedVariables false
namespace Go.Proofs.YtcfedmheblbdnaaGreatDoor.V
open Go Go.V Go.RowKit

theorem rde_bad (F : Nat) (f : Bool) (l : List (List AV)) (n : Nat) (hn : n ≤ 8) : ∀ (k i m : Nat) (lo : List Va) (w : Nat) (cs : List AV), i + k = n → k < m → lo.length ≤ i →
    ∃ st', loopRun (f10_l0.run F) [4, 5, 6, 7] (rdeK F) m (rdeE n (i : Nat) lo) (rdeS f true l lo w cs) = some (.ret (.tup [.nilsl, .bool false]), st')
  | k, i, 0, lo, w, cs, _, h, _ => by omega
  | 0, i, m + 1, lo, w, cs, h0, _, _ => by
    rw [show m + 1 = m.succ from rfl, rdeE, rdeS]
    cases lo with
    | nil => rw [outR, regR, outT, rde_b0, branch_not (decide_eq_false (by omega)), rdeK, rde_outb0]; exact ⟨_, rfl⟩
    | cons x r => rw [outR, regR, outT, rde_b1, branch_not (decide_eq_false (by omega)), rdeK, rde_outb1]; exact ⟨_, rfl⟩
  | k + 1, i, m + 1, lo, w, cs, h0, h, hlo => by
    obtain ⟨v, w', cs', hs⟩ := rde_bstep F m (rdeK F) f l lo w cs n i (by omega) (by omega) (by omega)
    rw [show m + 1 = m.succ from rfl, hs]
    exact rde_bad F f l n hn k (i + 1) m _ w' cs' (by omega) (by omega) (by simp; omega)
/-- What comes out. -/
def rdeAns (x : Option (List Va)) : AV := match x with
  | none => .tup [.nilsl, .bool false]
  | some vs => .tup [outR vs, .bool true]
theorem gt_zero (n : Nat) : decide ((n : Int) > 0) = !((n : Int) == 0) := by
  by_cases h : n = 0
  · subst h; rfl
  · rw [decide_eq_true (by omega), show ((n : Int) == 0) = false by rw [beq_eq_false_iff_ne]; omega]; rfl
theorem rde_good (F : Nat) (f : Bool) (n : Nat) (hn : n ≤ 8) : ∀ (k i m : Nat) (lo : List Va) (w : Nat) (cs : List AV) (l : List (List AV)), i + k = n → k < m → lo.length = i → K.fit (.sl f l) = true →
    ∃ st', loopRun (f10_l0.run F) [4, 5, 6, 7] (rdeK F) m (rdeE n (i : Nat) lo) (rdeS f false l lo w cs)
      = some (.ret (rdeAns (match decN k l with
        | none => none
        | some p => bif (p.2.length : Int) == 0 && (lo ++ p.1).all rightV then some (lo ++ p.1) else none)), st')
  | k, i, 0, lo, w, cs, l, _, h, _, _ => by omega
  | 0, i, m + 1, lo, w, cs, l, h0, _, hlo, hf => by
    rw [show m + 1 = m.succ from rfl, decN, rdeE, rdeS]
    simp only [List.append_nil]
    cases lo with
    | nil =>
      rw [outR, regR, outT, rde_g0, branch_not (decide_eq_false (by omega)), rdeK, rde_outg0, gt_zero]
      cases hz : (l.length : Int) == 0 with
      | true => exact ⟨_, rfl⟩
      | false => exact ⟨_, rfl⟩
    | cons x r =>
      rw [outR, regR, outT, rde_g1, branch_not (decide_eq_false (by omega)), rdeK, rde_outg1, gt_zero, branch_of (cellsV_ok (x :: r)), rrV_cells _ (by omega)]
      cases hz : (l.length : Int) == 0 with
      | false => exact ⟨_, rfl⟩
      | true =>
        rw [Bool.not_true, branch_false, Bool.true_and]
        cases (x :: r).all rightV <;> exact ⟨_, rfl⟩
  | k + 1, i, m + 1, lo, w, cs, l, h0, h, hlo, hf => by
    obtain ⟨v, l', b, w', cs', hs, hf', hm⟩ := rde_gstep F m (rdeK F) f l hf lo w cs n i (by omega) (by omega) (by omega)
    rw [show m + 1 = m.succ from rfl, hs, decN]
    cases hr : (rdV l).2 with
    | none =>
      rw [hr] at hm
      simp only at hm
      subst hm
      exact rde_bad F f l' n hn k (i + 1) m _ w' cs' (by omega) (by omega) (by simp; omega)
    | some l2 =>
      rw [hr] at hm
      simp only at hm
      obtain ⟨rfl, rfl, rfl⟩ := hm
      obtain ⟨st', ih⟩ := rde_good F f n hn k (i + 1) m (lo ++ [(rdV l).1]) w' cs' l' (by omega) (by omega) (by simp; omega) hf'
      refine ⟨st', ih.trans ?_⟩
      simp only
      cases decN k l' with
      | none => rfl
      | some p => simp only [List.append_assoc, List.singleton_append]
theorem rde_spec (F : Nat) (hF : 1000 < F) (l : List (List AV)) (hf : K.fit (.sl false l) = true) : ∃ st', f10.run F [.sl 1 false l] ⟨[], []⟩ = some (.ret (rdeAns (decF l)), st') := by
  have hf2 : K.fit (.sl l.isEmpty l) = true := hf
  rw [rde_run, branch_of hf, branch_of hf2, decF]
  cases hg : K.getC 8 (nR l) with
  | none =>
    obtain ⟨st', h⟩ := rde_bad F l.isEmpty (l.drop (K.resT (nR l))) 0 (by omega) 0 0 F [] 0 [] (by omega) (by omega) (by simp)
    exact ⟨st', h⟩
  | some o =>
    obtain ⟨h1, h2⟩ := getC_range hg
    obtain ⟨n, hn⟩ := Int.eq_ofNat_of_zero_le h1
    obtain ⟨st', h⟩ := rde_good F l.isEmpty n (by omega) n 0 F [] 0 [] (l.drop o.2) (by omega) (by omega) rfl (fit_drop hf2 _)
    refine ⟨st', ?_⟩
    simp only [onSome, hn, Int.toNat_natCast]
    exact h
noncomputable def p10 : POrc Tryz.prog := f10.seenAs2 dec1y (fun a => [nsBA a]) (fun a => [nsSl a.1 1 a.2]) dec1y_enc okY (fun a => deG (decF a.2).isNone (decF a.2)) fun a h => by
  obtain ⟨h1, h2⟩ := cdec_iff.mp h
  obtain ⟨z, l⟩ := a
  simp only at h1 h2
  refine ⟨fun g w vals ⟨v, vr, e, r1, r2⟩ => ⟨v, vr, e, nsSl_rel r1, r2⟩, ?_⟩
  cases z with
  | true =>
    obtain rfl := h1 rfl
    have : decF [] = none := rfl
    rw [this]
    exact ⟨⟨trivial, trivial⟩, .tup [.nilsl, .bool false], 1, _, _, rfl, ⟨trivial, trivial, trivial⟩, rde_nil 0, fun _ _ _ => tup2_mono fun _ => ns_of_nil⟩
  | false =>
    obtain ⟨st', h⟩ := rde_spec 1001 (by omega) l h2
    refine ⟨⟨near_okR (K.fit_spec h2).1, trivial⟩, frz (rdeAns (decF l)), 1001, _, st', rfl, ?_, h, ?_⟩
    · cases decF l with
      | none => exact ⟨trivial, trivial, trivial⟩
      | some vs =>
        cases vs with
        | nil => exact ⟨trivial, trivial, trivial⟩
        | cons x r => exact ⟨scoped_cells _, trivial, trivial⟩
    · intro g w v
      cases decF l with
      | none => exact tup2_mono fun _ => ns_of_nil
      | some vs =>
        cases vs with
        | nil => exact tup2_mono fun _ => ns_of_sl
        | cons x r => exact tup2_mono fun _ => ns_of_sl
end Go.Proofs.YtcfedmheblbdnaaGreatDoor.V
