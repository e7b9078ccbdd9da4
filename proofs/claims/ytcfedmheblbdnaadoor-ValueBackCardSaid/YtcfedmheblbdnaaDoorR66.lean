/- Merged out of 52 texts: what the claim's code comes to, and why. -/
import Derived.Test.YtcfedmheblbdnaaDoorR65
/- What the functions' runs come to; the right sides were printed by a tool, Lean checks them. -/
set_option linter.unusedVariables false
set_option maxRecDepth 100000
namespace Go.Proofs.YtcfedmheblbdnaaDoor.V
open Go Go.V Go.RowKit

theorem fb_run (F : Nat) (n c : Nat) (u : Int) (C : List AV) (os : List Ob) (tk : List (Nat × Nat)) :
 (f86.run F [.ms 0 1 1 n c, .int .u64 u] ⟨.cells C :: os, tk⟩ : Ans) =
 loopRun (f86_l0.run F) [0, 1, 4]
 (Cont.block 0 (Cont.then (f86_r0.run F (f86.leaveK Fun.done)) (f86.leaveK Fun.done))) F
 (Env.mk 167
 [(0, AV.ms 0 1 1 n c), (1, AV.int IntKind.u64 u),
 (4, AV.int IntKind.i64 (↑n : Int))])
 (St.mk (Ob.cells C :: os) tk) := by kernel_rfl

theorem fb_round (F m : Nat) (K : Cont) (n c : Nat) (u d : Int) (C : List AV) (os : List Ob) (tk : List (Nat × Nat)) :
 (loopRun (f86_l0.run F) [0, 1, 4] K m.succ (Env.mk 167 [(0, .ms 0 1 1 n c), (1, .int .u64 u), (4, .int .i64 d)]) ⟨.cells C :: os, tk⟩ : Ans) =
 branch (AV.bool (decide (d ≥ (8 : Int))))
 (branch
 (AV.bool
 (inT tx_730b8f
 (IntKind.u32.wrap
 (IntKind.u32.wrap
 (((IntKind.u32.wrap (u.tmod (100000000 : Int))).tmod (10000 : Int)).tmod (100 : Int) * (2 : Int)) +
 (1 : Int)))))
 (branch
 (AV.bool
 (inT tx_730b8f
 (IntKind.u32.wrap
 (((IntKind.u32.wrap (u.tmod (100000000 : Int))).tmod (10000 : Int)).tmod (100 : Int) * (2 : Int)))))
 (if (0 : Int) ≤ IntKind.i64.wrap (d - (1 : Int)) ∧ IntKind.i64.wrap (d - (1 : Int)) < (↑n : Int) then
 branch (AV.bool (true && inC C (1 + (IntKind.i64.wrap (d - (1 : Int))).toNat * 1) 1))
 (if (0 : Int) ≤ IntKind.i64.wrap (d - (2 : Int)) ∧ IntKind.i64.wrap (d - (2 : Int)) < (↑n : Int) then
 branch
 (AV.bool
 (true &&
 inC
 (setC C (1 + (IntKind.i64.wrap (d - (1 : Int))).toNat * 1)
 [AV.int IntKind.u8
 (atT tx_730b8f
 (IntKind.u32.wrap
 (IntKind.u32.wrap
 (((IntKind.u32.wrap (u.tmod (100000000 : Int))).tmod (10000 : Int)).tmod (100 : Int) *
 (2 : Int)) +
 (1 : Int))))])
 (1 + (IntKind.i64.wrap (d - (2 : Int))).toNat * 1) 1))
 (branch
 (AV.bool
 (inT tx_730b8f
 (IntKind.u32.wrap
 (IntKind.u32.wrap
 (IntKind.u32.wrap
 (((IntKind.u32.wrap (u.tmod (100000000 : Int))).tmod (10000 : Int)).tdiv (100 : Int)) *
 (2 : Int)) +
 (1 : Int)))))
 (branch
 (AV.bool
 (inT tx_730b8f
 (IntKind.u32.wrap
 (IntKind.u32.wrap
 (((IntKind.u32.wrap (u.tmod (100000000 : Int))).tmod (10000 : Int)).tdiv (100 : Int)) *
 (2 : Int)))))
 (if (0 : Int) ≤ IntKind.i64.wrap (d - (3 : Int)) ∧ IntKind.i64.wrap (d - (3 : Int)) < (↑n : Int) then
 branch
 (AV.bool
 (true &&
 inC
 (setC
 (setC C (1 + (IntKind.i64.wrap (d - (1 : Int))).toNat * 1)
 [AV.int IntKind.u8
 (atT tx_730b8f
 (IntKind.u32.wrap
 (IntKind.u32.wrap
 (((IntKind.u32.wrap (u.tmod (100000000 : Int))).tmod (10000 : Int)).tmod
 (100 : Int) *
 (2 : Int)) +
 (1 : Int))))])
 (1 + (IntKind.i64.wrap (d - (2 : Int))).toNat * 1)
 [AV.int IntKind.u8
 (atT tx_730b8f
 (IntKind.u32.wrap
 (((IntKind.u32.wrap (u.tmod (100000000 : Int))).tmod (10000 : Int)).tmod
 (100 : Int) *
 (2 : Int))))])
 (1 + (IntKind.i64.wrap (d - (3 : Int))).toNat * 1) 1))
 (if
 (0 : Int) ≤ IntKind.i64.wrap (d - (4 : Int)) ∧
 IntKind.i64.wrap (d - (4 : Int)) < (↑n : Int) then
 branch
 (AV.bool
 (true &&
 inC
 (setC
 (setC
 (setC C (1 + (IntKind.i64.wrap (d - (1 : Int))).toNat * 1)
 [AV.int IntKind.u8
 (atT tx_730b8f
 (IntKind.u32.wrap
 (IntKind.u32.wrap
 (((IntKind.u32.wrap (u.tmod (100000000 : Int))).tmod
 (10000 : Int)).tmod
 (100 : Int) *
 (2 : Int)) +
 (1 : Int))))])
 (1 + (IntKind.i64.wrap (d - (2 : Int))).toNat * 1)
 [AV.int IntKind.u8
 (atT tx_730b8f
 (IntKind.u32.wrap
 (((IntKind.u32.wrap (u.tmod (100000000 : Int))).tmod (10000 : Int)).tmod
 (100 : Int) *
 (2 : Int))))])
 (1 + (IntKind.i64.wrap (d - (3 : Int))).toNat * 1)
 [AV.int IntKind.u8
 (atT tx_730b8f
 (IntKind.u32.wrap
 (IntKind.u32.wrap
 (IntKind.u32.wrap
 (((IntKind.u32.wrap (u.tmod (100000000 : Int))).tmod
 (10000 : Int)).tdiv
 (100 : Int)) *
 (2 : Int)) +
 (1 : Int))))])
 (1 + (IntKind.i64.wrap (d - (4 : Int))).toNat * 1) 1))
 (branch
 (AV.bool
 (inT tx_730b8f
 (IntKind.u32.wrap
 (IntKind.u32.wrap
 ((IntKind.u32.wrap
 ((IntKind.u32.wrap (u.tmod (100000000 : Int))).tdiv (10000 : Int))).tmod
 (100 : Int) *
 (2 : Int)) +
 (1 : Int)))))
 (branch
 (AV.bool
 (inT tx_730b8f
 (IntKind.u32.wrap
 ((IntKind.u32.wrap
 ((IntKind.u32.wrap (u.tmod (100000000 : Int))).tdiv (10000 : Int))).tmod
 (100 : Int) *
 (2 : Int)))))
 (if
 (0 : Int) ≤ IntKind.i64.wrap (d - (5 : Int)) ∧
 IntKind.i64.wrap (d - (5 : Int)) < (↑n : Int) then
 branch
 (AV.bool
 (true &&
 inC
 (setC
 (setC
 (setC
 (setC C (1 + (IntKind.i64.wrap (d - (1 : Int))).toNat * 1)
 [AV.int IntKind.u8
 (atT tx_730b8f
 (IntKind.u32.wrap
 (IntKind.u32.wrap
 (((IntKind.u32.wrap (u.tmod (100000000 : Int))).tmod
 (10000 : Int)).tmod
 (100 : Int) *
 (2 : Int)) +
 (1 : Int))))])
 (1 + (IntKind.i64.wrap (d - (2 : Int))).toNat * 1)
 [AV.int IntKind.u8
 (atT tx_730b8f
 (IntKind.u32.wrap
 (((IntKind.u32.wrap (u.tmod (100000000 : Int))).tmod
 (10000 : Int)).tmod
 (100 : Int) *
 (2 : Int))))])
 (1 + (IntKind.i64.wrap (d - (3 : Int))).toNat * 1)
 [AV.int IntKind.u8
 (atT tx_730b8f
 (IntKind.u32.wrap
 (IntKind.u32.wrap
 (IntKind.u32.wrap
 (((IntKind.u32.wrap (u.tmod (100000000 : Int))).tmod
 (10000 : Int)).tdiv
 (100 : Int)) *
 (2 : Int)) +
 (1 : Int))))])
 (1 + (IntKind.i64.wrap (d - (4 : Int))).toNat * 1)
 [AV.int IntKind.u8
 (atT tx_730b8f
 (IntKind.u32.wrap
 (IntKind.u32.wrap
 (((IntKind.u32.wrap (u.tmod (100000000 : Int))).tmod
 (10000 : Int)).tdiv
 (100 : Int)) *
 (2 : Int))))])
 (1 + (IntKind.i64.wrap (d - (5 : Int))).toNat * 1) 1))
 (if
 (0 : Int) ≤ IntKind.i64.wrap (d - (6 : Int)) ∧
 IntKind.i64.wrap (d - (6 : Int)) < (↑n : Int) then
 branch
 (AV.bool
 (true &&
 inC
 (setC
 (setC
 (setC
 (setC
 (setC C
 (1 + (IntKind.i64.wrap (d - (1 : Int))).toNat * 1)
 [AV.int IntKind.u8
 (atT tx_730b8f
 (IntKind.u32.wrap
 (IntKind.u32.wrap
 (((IntKind.u32.wrap (u.tmod (100000000 : Int))).tmod
 (10000 : Int)).tmod
 (100 : Int) *
 (2 : Int)) +
 (1 : Int))))])
 (1 + (IntKind.i64.wrap (d - (2 : Int))).toNat * 1)
 [AV.int IntKind.u8
 (atT tx_730b8f
 (IntKind.u32.wrap
 (((IntKind.u32.wrap (u.tmod (100000000 : Int))).tmod
 (10000 : Int)).tmod
 (100 : Int) *
 (2 : Int))))])
 (1 + (IntKind.i64.wrap (d - (3 : Int))).toNat * 1)
 [AV.int IntKind.u8
 (atT tx_730b8f
 (IntKind.u32.wrap
 (IntKind.u32.wrap
 (IntKind.u32.wrap
 (((IntKind.u32.wrap (u.tmod (100000000 : Int))).tmod
 (10000 : Int)).tdiv
 (100 : Int)) *
 (2 : Int)) +
 (1 : Int))))])
 (1 + (IntKind.i64.wrap (d - (4 : Int))).toNat * 1)
 [AV.int IntKind.u8
 (atT tx_730b8f
 (IntKind.u32.wrap
 (IntKind.u32.wrap
 (((IntKind.u32.wrap (u.tmod (100000000 : Int))).tmod
 (10000 : Int)).tdiv
 (100 : Int)) *
 (2 : Int))))])
 (1 + (IntKind.i64.wrap (d - (5 : Int))).toNat * 1)
 [AV.int IntKind.u8
 (atT tx_730b8f
 (IntKind.u32.wrap
 (IntKind.u32.wrap
 ((IntKind.u32.wrap
 ((IntKind.u32.wrap (u.tmod (100000000 : Int))).tdiv
 (10000 : Int))).tmod
 (100 : Int) *
 (2 : Int)) +
 (1 : Int))))])
 (1 + (IntKind.i64.wrap (d - (6 : Int))).toNat * 1)
 1))
 (branch
 (AV.bool
 (inT tx_730b8f
 (IntKind.u32.wrap
 (IntKind.u32.wrap
 (IntKind.u32.wrap
 ((IntKind.u32.wrap
 ((IntKind.u32.wrap (u.tmod (100000000 : Int))).tdiv
 (10000 : Int))).tdiv
 (100 : Int)) *
 (2 : Int)) +
 (1 : Int)))))
 (branch
 (AV.bool
 (inT tx_730b8f
 (IntKind.u32.wrap
 (IntKind.u32.wrap
 ((IntKind.u32.wrap
 ((IntKind.u32.wrap (u.tmod (100000000 : Int))).tdiv
 (10000 : Int))).tdiv
 (100 : Int)) *
 (2 : Int)))))
 (if
 (0 : Int) ≤ IntKind.i64.wrap (d - (7 : Int)) ∧
 IntKind.i64.wrap (d - (7 : Int)) < (↑n : Int) then
 branch
 (AV.bool
 (true &&
 inC
 (setC
 (setC
 (setC
 (setC
 (setC
 (setC C
 (1 +
 (IntKind.i64.wrap (d - (1 : Int))).toNat * 1)
 [AV.int IntKind.u8
 (atT tx_730b8f
 (IntKind.u32.wrap
 (IntKind.u32.wrap
 (((IntKind.u32.wrap
 (u.tmod (100000000 : Int))).tmod
 (10000 : Int)).tmod
 (100 : Int) *
 (2 : Int)) +
 (1 : Int))))])
 (1 +
 (IntKind.i64.wrap (d - (2 : Int))).toNat * 1)
 [AV.int IntKind.u8
 (atT tx_730b8f
 (IntKind.u32.wrap
 (((IntKind.u32.wrap
 (u.tmod (100000000 : Int))).tmod
 (10000 : Int)).tmod
 (100 : Int) *
 (2 : Int))))])
 (1 +
 (IntKind.i64.wrap (d - (3 : Int))).toNat * 1)
 [AV.int IntKind.u8
 (atT tx_730b8f
 (IntKind.u32.wrap
 (IntKind.u32.wrap
 (IntKind.u32.wrap
 (((IntKind.u32.wrap
 (u.tmod (100000000 : Int))).tmod
 (10000 : Int)).tdiv
 (100 : Int)) *
 (2 : Int)) +
 (1 : Int))))])
 (1 +
 (IntKind.i64.wrap (d - (4 : Int))).toNat * 1)
 [AV.int IntKind.u8
 (atT tx_730b8f
 (IntKind.u32.wrap
 (IntKind.u32.wrap
 (((IntKind.u32.wrap
 (u.tmod (100000000 : Int))).tmod
 (10000 : Int)).tdiv
 (100 : Int)) *
 (2 : Int))))])
 (1 +
 (IntKind.i64.wrap (d - (5 : Int))).toNat * 1)
 [AV.int IntKind.u8
 (atT tx_730b8f
 (IntKind.u32.wrap
 (IntKind.u32.wrap
 ((IntKind.u32.wrap
 ((IntKind.u32.wrap
 (u.tmod (100000000 : Int))).tdiv
 (10000 : Int))).tmod
 (100 : Int) *
 (2 : Int)) +
 (1 : Int))))])
 (1 + (IntKind.i64.wrap (d - (6 : Int))).toNat * 1)
 [AV.int IntKind.u8
 (atT tx_730b8f
 (IntKind.u32.wrap
 ((IntKind.u32.wrap
 ((IntKind.u32.wrap
 (u.tmod (100000000 : Int))).tdiv
 (10000 : Int))).tmod
 (100 : Int) *
 (2 : Int))))])
 (1 + (IntKind.i64.wrap (d - (7 : Int))).toNat * 1)
 1))
 (if
 (0 : Int) ≤ IntKind.i64.wrap (d - (8 : Int)) ∧
 IntKind.i64.wrap (d - (8 : Int)) < (↑n : Int) then
 branch
 (AV.bool
 (true &&
 inC
 (setC
 (setC
 (setC
 (setC
 (setC
 (setC
 (setC C
 (1 +
 (IntKind.i64.wrap (d - (1 : Int))).toNat *
 1)
 [AV.int IntKind.u8
 (atT tx_730b8f
 (IntKind.u32.wrap
 (IntKind.u32.wrap
 (((IntKind.u32.wrap
 (u.tmod
 (100000000 : Int))).tmod
 (10000 : Int)).tmod
 (100 : Int) *
 (2 : Int)) +
 (1 : Int))))])
 (1 +
 (IntKind.i64.wrap (d - (2 : Int))).toNat *
 1)
 [AV.int IntKind.u8
 (atT tx_730b8f
 (IntKind.u32.wrap
 (((IntKind.u32.wrap
 (u.tmod (100000000 : Int))).tmod
 (10000 : Int)).tmod
 (100 : Int) *
 (2 : Int))))])
 (1 +
 (IntKind.i64.wrap (d - (3 : Int))).toNat *
 1)
 [AV.int IntKind.u8
 (atT tx_730b8f
 (IntKind.u32.wrap
 (IntKind.u32.wrap
 (IntKind.u32.wrap
 (((IntKind.u32.wrap
 (u.tmod
 (100000000 : Int))).tmod
 (10000 : Int)).tdiv
 (100 : Int)) *
 (2 : Int)) +
 (1 : Int))))])
 (1 +
 (IntKind.i64.wrap (d - (4 : Int))).toNat * 1)
 [AV.int IntKind.u8
 (atT tx_730b8f
 (IntKind.u32.wrap
 (IntKind.u32.wrap
 (((IntKind.u32.wrap
 (u.tmod (100000000 : Int))).tmod
 (10000 : Int)).tdiv
 (100 : Int)) *
 (2 : Int))))])
 (1 +
 (IntKind.i64.wrap (d - (5 : Int))).toNat * 1)
 [AV.int IntKind.u8
 (atT tx_730b8f
 (IntKind.u32.wrap
 (IntKind.u32.wrap
 ((IntKind.u32.wrap
 ((IntKind.u32.wrap
 (u.tmod (100000000 : Int))).tdiv
 (10000 : Int))).tmod
 (100 : Int) *
 (2 : Int)) +
 (1 : Int))))])
 (1 +
 (IntKind.i64.wrap (d - (6 : Int))).toNat * 1)
 [AV.int IntKind.u8
 (atT tx_730b8f
 (IntKind.u32.wrap
 ((IntKind.u32.wrap
 ((IntKind.u32.wrap
 (u.tmod (100000000 : Int))).tdiv
 (10000 : Int))).tmod
 (100 : Int) *
 (2 : Int))))])
 (1 +
 (IntKind.i64.wrap (d - (7 : Int))).toNat * 1)
 [AV.int IntKind.u8
 (atT tx_730b8f
 (IntKind.u32.wrap
 (IntKind.u32.wrap
 (IntKind.u32.wrap
 ((IntKind.u32.wrap
 ((IntKind.u32.wrap
 (u.tmod (100000000 : Int))).tdiv
 (10000 : Int))).tdiv
 (100 : Int)) *
 (2 : Int)) +
 (1 : Int))))])
 (1 +
 (IntKind.i64.wrap (d - (8 : Int))).toNat * 1)
 1))
 (loopRun (f86_l0.run F) [0, 1, 4] K m
 (Env.mk 167
 [(0, AV.ms 0 1 1 n c),
 (1,
 AV.int IntKind.u64
 (IntKind.u64.wrap (u.tdiv (100000000 : Int)))),
 (4,
 AV.int IntKind.i64 (IntKind.i64.wrap (d - (8 : Int))))])
 (St.mk
 (Ob.cells
 (setC
 (setC
 (setC
 (setC
 (setC
 (setC
 (setC
 (setC C
 (1 +
 (IntKind.i64.wrap (d - (1 : Int))).toNat *
 1)
 [AV.int IntKind.u8
 (atT tx_730b8f
 (IntKind.u32.wrap
 (IntKind.u32.wrap
 (((IntKind.u32.wrap
 (u.tmod
 (100000000 :
 Int))).tmod
 (10000 : Int)).tmod
 (100 : Int) *
 (2 : Int)) +
 (1 : Int))))])
 (1 +
 (IntKind.i64.wrap (d - (2 : Int))).toNat *
 1)
 [AV.int IntKind.u8
 (atT tx_730b8f
 (IntKind.u32.wrap
 (((IntKind.u32.wrap
 (u.tmod
 (100000000 : Int))).tmod
 (10000 : Int)).tmod
 (100 : Int) *
 (2 : Int))))])
 (1 +
 (IntKind.i64.wrap (d - (3 : Int))).toNat *
 1)
 [AV.int IntKind.u8
 (atT tx_730b8f
 (IntKind.u32.wrap
 (IntKind.u32.wrap
 (IntKind.u32.wrap
 (((IntKind.u32.wrap
 (u.tmod
 (100000000 :
 Int))).tmod
 (10000 : Int)).tdiv
 (100 : Int)) *
 (2 : Int)) +
 (1 : Int))))])
 (1 +
 (IntKind.i64.wrap (d - (4 : Int))).toNat *
 1)
 [AV.int IntKind.u8
 (atT tx_730b8f
 (IntKind.u32.wrap
 (IntKind.u32.wrap
 (((IntKind.u32.wrap
 (u.tmod
 (100000000 : Int))).tmod
 (10000 : Int)).tdiv
 (100 : Int)) *
 (2 : Int))))])
 (1 +
 (IntKind.i64.wrap (d - (5 : Int))).toNat *
 1)
 [AV.int IntKind.u8
 (atT tx_730b8f
 (IntKind.u32.wrap
 (IntKind.u32.wrap
 ((IntKind.u32.wrap
 ((IntKind.u32.wrap
 (u.tmod
 (100000000 : Int))).tdiv
 (10000 : Int))).tmod
 (100 : Int) *
 (2 : Int)) +
 (1 : Int))))])
 (1 +
 (IntKind.i64.wrap (d - (6 : Int))).toNat * 1)
 [AV.int IntKind.u8
 (atT tx_730b8f
 (IntKind.u32.wrap
 ((IntKind.u32.wrap
 ((IntKind.u32.wrap
 (u.tmod (100000000 : Int))).tdiv
 (10000 : Int))).tmod
 (100 : Int) *
 (2 : Int))))])
 (1 +
 (IntKind.i64.wrap (d - (7 : Int))).toNat * 1)
 [AV.int IntKind.u8
 (atT tx_730b8f
 (IntKind.u32.wrap
 (IntKind.u32.wrap
 (IntKind.u32.wrap
 ((IntKind.u32.wrap
 ((IntKind.u32.wrap
 (u.tmod
 (100000000 : Int))).tdiv
 (10000 : Int))).tdiv
 (100 : Int)) *
 (2 : Int)) +
 (1 : Int))))])
 (1 +
 (IntKind.i64.wrap (d - (8 : Int))).toNat * 1)
 [AV.int IntKind.u8
 (atT tx_730b8f
 (IntKind.u32.wrap
 (IntKind.u32.wrap
 ((IntKind.u32.wrap
 ((IntKind.u32.wrap
 (u.tmod (100000000 : Int))).tdiv
 (10000 : Int))).tdiv
 (100 : Int)) *
 (2 : Int))))]) ::
 os)
 tk))
 none
 else none)
 none
 else none)
 none)
 none)
 none
 else none)
 none
 else none)
 none)
 none)
 none
 else none)
 none
 else none)
 none)
 none)
 none
 else none)
 none
 else none)
 none)
 none)
 (K (AX.exit 0)
 (Env.mk 167
 [(0, AV.ms 0 1 1 n c), (1, AV.int IntKind.u64 u),
 (4, AV.int IntKind.i64 d)])
 (St.mk (Ob.cells C :: os) tk)) := by kernel_rfl

theorem fb_out (F : Nat) (n c : Nat) (u d : Int) (C : List AV) (os : List Ob) (tk : List (Nat × Nat)) :
 ((Cont.block 0 (Cont.then (f86_r0.run F (f86.leaveK Fun.done)) (f86.leaveK Fun.done))) (.exit 0) (Env.mk 167 [(0, .ms 0 1 1 n c), (1, .int .u64 u), (4, .int .i64 d)]) ⟨.cells C :: os, tk⟩ : Ans) =
 branch (AV.bool (decide (d ≥ (4 : Int))))
 (branch
 (AV.bool
 (inT tx_730b8f
 (IntKind.u32.wrap
 (IntKind.u32.wrap (((IntKind.u32.wrap u).tmod (10000 : Int)).tmod (100 : Int) * (2 : Int)) + (1 : Int)))))
 (branch
 (AV.bool
 (inT tx_730b8f (IntKind.u32.wrap (((IntKind.u32.wrap u).tmod (10000 : Int)).tmod (100 : Int) * (2 : Int)))))
 (if (0 : Int) ≤ IntKind.i64.wrap (d - (1 : Int)) ∧ IntKind.i64.wrap (d - (1 : Int)) < (↑n : Int) then
 branch (AV.bool (true && inC C (1 + (IntKind.i64.wrap (d - (1 : Int))).toNat * 1) 1))
 (if (0 : Int) ≤ IntKind.i64.wrap (d - (2 : Int)) ∧ IntKind.i64.wrap (d - (2 : Int)) < (↑n : Int) then
 branch
 (AV.bool
 (true &&
 inC
 (setC C (1 + (IntKind.i64.wrap (d - (1 : Int))).toNat * 1)
 [AV.int IntKind.u8
 (atT tx_730b8f
 (IntKind.u32.wrap
 (IntKind.u32.wrap
 (((IntKind.u32.wrap u).tmod (10000 : Int)).tmod (100 : Int) * (2 : Int)) +
 (1 : Int))))])
 (1 + (IntKind.i64.wrap (d - (2 : Int))).toNat * 1) 1))
 (branch
 (AV.bool
 (inT tx_730b8f
 (IntKind.u32.wrap
 (IntKind.u32.wrap
 (IntKind.u32.wrap (((IntKind.u32.wrap u).tmod (10000 : Int)).tdiv (100 : Int)) * (2 : Int)) +
 (1 : Int)))))
 (branch
 (AV.bool
 (inT tx_730b8f
 (IntKind.u32.wrap
 (IntKind.u32.wrap (((IntKind.u32.wrap u).tmod (10000 : Int)).tdiv (100 : Int)) * (2 : Int)))))
 (if (0 : Int) ≤ IntKind.i64.wrap (d - (3 : Int)) ∧ IntKind.i64.wrap (d - (3 : Int)) < (↑n : Int) then
 branch
 (AV.bool
 (true &&
 inC
 (setC
 (setC C (1 + (IntKind.i64.wrap (d - (1 : Int))).toNat * 1)
 [AV.int IntKind.u8
 (atT tx_730b8f
 (IntKind.u32.wrap
 (IntKind.u32.wrap
 (((IntKind.u32.wrap u).tmod (10000 : Int)).tmod (100 : Int) * (2 : Int)) +
 (1 : Int))))])
 (1 + (IntKind.i64.wrap (d - (2 : Int))).toNat * 1)
 [AV.int IntKind.u8
 (atT tx_730b8f
 (IntKind.u32.wrap
 (((IntKind.u32.wrap u).tmod (10000 : Int)).tmod (100 : Int) * (2 : Int))))])
 (1 + (IntKind.i64.wrap (d - (3 : Int))).toNat * 1) 1))
 (if
 (0 : Int) ≤ IntKind.i64.wrap (d - (4 : Int)) ∧
 IntKind.i64.wrap (d - (4 : Int)) < (↑n : Int) then
 branch
 (AV.bool
 (true &&
 inC
 (setC
 (setC
 (setC C (1 + (IntKind.i64.wrap (d - (1 : Int))).toNat * 1)
 [AV.int IntKind.u8
 (atT tx_730b8f
 (IntKind.u32.wrap
 (IntKind.u32.wrap
 (((IntKind.u32.wrap u).tmod (10000 : Int)).tmod (100 : Int) *
 (2 : Int)) +
 (1 : Int))))])
 (1 + (IntKind.i64.wrap (d - (2 : Int))).toNat * 1)
 [AV.int IntKind.u8
 (atT tx_730b8f
 (IntKind.u32.wrap
 (((IntKind.u32.wrap u).tmod (10000 : Int)).tmod (100 : Int) * (2 : Int))))])
 (1 + (IntKind.i64.wrap (d - (3 : Int))).toNat * 1)
 [AV.int IntKind.u8
 (atT tx_730b8f
 (IntKind.u32.wrap
 (IntKind.u32.wrap
 (IntKind.u32.wrap
 (((IntKind.u32.wrap u).tmod (10000 : Int)).tdiv (100 : Int)) *
 (2 : Int)) +
 (1 : Int))))])
 (1 + (IntKind.i64.wrap (d - (4 : Int))).toNat * 1) 1))
 (branch (AV.bool (decide (IntKind.i64.wrap (d - (4 : Int)) ≥ (2 : Int))))
 (branch
 (AV.bool
 (inT tx_730b8f
 (IntKind.u32.wrap
 (IntKind.u32.wrap
 ((IntKind.u32.wrap ((IntKind.u32.wrap u).tdiv (10000 : Int))).tmod (100 : Int) *
 (2 : Int)) +
 (1 : Int)))))
 (branch
 (AV.bool
 (inT tx_730b8f
 (IntKind.u32.wrap
 ((IntKind.u32.wrap ((IntKind.u32.wrap u).tdiv (10000 : Int))).tmod (100 : Int) *
 (2 : Int)))))
 (if
 (0 : Int) ≤ IntKind.i64.wrap (IntKind.i64.wrap (d - (4 : Int)) - (1 : Int)) ∧
 IntKind.i64.wrap (IntKind.i64.wrap (d - (4 : Int)) - (1 : Int)) < (↑n : Int) then
 branch
 (AV.bool
 (true &&
 inC
 (setC
 (setC
 (setC
 (setC C
 (1 + (IntKind.i64.wrap (d - (1 : Int))).toNat * 1)
 [AV.int IntKind.u8
 (atT tx_730b8f
 (IntKind.u32.wrap
 (IntKind.u32.wrap
 (((IntKind.u32.wrap u).tmod (10000 : Int)).tmod
 (100 : Int) *
 (2 : Int)) +
 (1 : Int))))])
 (1 + (IntKind.i64.wrap (d - (2 : Int))).toNat * 1)
 [AV.int IntKind.u8
 (atT tx_730b8f
 (IntKind.u32.wrap
 (((IntKind.u32.wrap u).tmod (10000 : Int)).tmod (100 : Int) *
 (2 : Int))))])
 (1 + (IntKind.i64.wrap (d - (3 : Int))).toNat * 1)
 [AV.int IntKind.u8
 (atT tx_730b8f
 (IntKind.u32.wrap
 (IntKind.u32.wrap
 (IntKind.u32.wrap
 (((IntKind.u32.wrap u).tmod (10000 : Int)).tdiv
 (100 : Int)) *
 (2 : Int)) +
 (1 : Int))))])
 (1 + (IntKind.i64.wrap (d - (4 : Int))).toNat * 1)
 [AV.int IntKind.u8
 (atT tx_730b8f
 (IntKind.u32.wrap
 (IntKind.u32.wrap
 (((IntKind.u32.wrap u).tmod (10000 : Int)).tdiv (100 : Int)) *
 (2 : Int))))])
 (1 +
 (IntKind.i64.wrap (IntKind.i64.wrap (d - (4 : Int)) - (1 : Int))).toNat *
 1)
 1))
 (if
 (0 : Int) ≤ IntKind.i64.wrap (IntKind.i64.wrap (d - (4 : Int)) - (2 : Int)) ∧
 IntKind.i64.wrap (IntKind.i64.wrap (d - (4 : Int)) - (2 : Int)) <
 (↑n : Int) then
 branch
 (AV.bool
 (true &&
 inC
 (setC
 (setC
 (setC
 (setC
 (setC C
 (1 +
 (IntKind.i64.wrap (d - (1 : Int))).toNat * 1)
 [AV.int IntKind.u8
 (atT tx_730b8f
 (IntKind.u32.wrap
 (IntKind.u32.wrap
 (((IntKind.u32.wrap u).tmod (10000 : Int)).tmod
 (100 : Int) *
 (2 : Int)) +
 (1 : Int))))])
 (1 + (IntKind.i64.wrap (d - (2 : Int))).toNat * 1)
 [AV.int IntKind.u8
 (atT tx_730b8f
 (IntKind.u32.wrap
 (((IntKind.u32.wrap u).tmod (10000 : Int)).tmod
 (100 : Int) *
 (2 : Int))))])
 (1 + (IntKind.i64.wrap (d - (3 : Int))).toNat * 1)
 [AV.int IntKind.u8
 (atT tx_730b8f
 (IntKind.u32.wrap
 (IntKind.u32.wrap
 (IntKind.u32.wrap
 (((IntKind.u32.wrap u).tmod (10000 : Int)).tdiv
 (100 : Int)) *
 (2 : Int)) +
 (1 : Int))))])
 (1 + (IntKind.i64.wrap (d - (4 : Int))).toNat * 1)
 [AV.int IntKind.u8
 (atT tx_730b8f
 (IntKind.u32.wrap
 (IntKind.u32.wrap
 (((IntKind.u32.wrap u).tmod (10000 : Int)).tdiv
 (100 : Int)) *
 (2 : Int))))])
 (1 +
 (IntKind.i64.wrap
 (IntKind.i64.wrap (d - (4 : Int)) - (1 : Int))).toNat *
 1)
 [AV.int IntKind.u8
 (atT tx_730b8f
 (IntKind.u32.wrap
 (IntKind.u32.wrap
 ((IntKind.u32.wrap
 ((IntKind.u32.wrap u).tdiv (10000 : Int))).tmod
 (100 : Int) *
 (2 : Int)) +
 (1 : Int))))])
 (1 +
 (IntKind.i64.wrap
 (IntKind.i64.wrap (d - (4 : Int)) - (2 : Int))).toNat *
 1)
 1))
 (branch
 (AV.bool
 (decide
 (IntKind.i64.wrap (IntKind.i64.wrap (d - (4 : Int)) - (2 : Int)) >
 (0 : Int))))
 (if (0 : Int) ≤ (0 : Int) ∧ (0 : Int) < (↑n : Int) then
 branch
 (AV.bool
 (true &&
 inC
 (setC
 (setC
 (setC
 (setC
 (setC
 (setC C
 (1 +
 (IntKind.i64.wrap (d - (1 : Int))).toNat * 1)
 [AV.int IntKind.u8
 (atT tx_730b8f
 (IntKind.u32.wrap
 (IntKind.u32.wrap
 (((IntKind.u32.wrap u).tmod
 (10000 : Int)).tmod
 (100 : Int) *
 (2 : Int)) +
 (1 : Int))))])
 (1 +
 (IntKind.i64.wrap (d - (2 : Int))).toNat * 1)
 [AV.int IntKind.u8
 (atT tx_730b8f
 (IntKind.u32.wrap
 (((IntKind.u32.wrap u).tmod (10000 : Int)).tmod
 (100 : Int) *
 (2 : Int))))])
 (1 +
 (IntKind.i64.wrap (d - (3 : Int))).toNat * 1)
 [AV.int IntKind.u8
 (atT tx_730b8f
 (IntKind.u32.wrap
 (IntKind.u32.wrap
 (IntKind.u32.wrap
 (((IntKind.u32.wrap u).tmod
 (10000 : Int)).tdiv
 (100 : Int)) *
 (2 : Int)) +
 (1 : Int))))])
 (1 +
 (IntKind.i64.wrap (d - (4 : Int))).toNat * 1)
 [AV.int IntKind.u8
 (atT tx_730b8f
 (IntKind.u32.wrap
 (IntKind.u32.wrap
 (((IntKind.u32.wrap u).tmod (10000 : Int)).tdiv
 (100 : Int)) *
 (2 : Int))))])
 (1 +
 (IntKind.i64.wrap
 (IntKind.i64.wrap (d - (4 : Int)) - (1 : Int))).toNat *
 1)
 [AV.int IntKind.u8
 (atT tx_730b8f
 (IntKind.u32.wrap
 (IntKind.u32.wrap
 ((IntKind.u32.wrap
 ((IntKind.u32.wrap u).tdiv
 (10000 : Int))).tmod
 (100 : Int) *
 (2 : Int)) +
 (1 : Int))))])
 (1 +
 (IntKind.i64.wrap
 (IntKind.i64.wrap (d - (4 : Int)) - (2 : Int))).toNat *
 1)
 [AV.int IntKind.u8
 (atT tx_730b8f
 (IntKind.u32.wrap
 ((IntKind.u32.wrap
 ((IntKind.u32.wrap u).tdiv (10000 : Int))).tmod
 (100 : Int) *
 (2 : Int))))])
 1 1))
 (some
 (Fin.ret (AV.tup []),
 St.mk
 (Ob.cells
 (setC
 (setC
 (setC
 (setC
 (setC
 (setC
 (setC C
 (1 +
 (IntKind.i64.wrap (d - (1 : Int))).toNat *
 1)
 [AV.int IntKind.u8
 (atT tx_730b8f
 (IntKind.u32.wrap
 (IntKind.u32.wrap
 (((IntKind.u32.wrap u).tmod
 (10000 : Int)).tmod
 (100 : Int) *
 (2 : Int)) +
 (1 : Int))))])
 (1 +
 (IntKind.i64.wrap (d - (2 : Int))).toNat *
 1)
 [AV.int IntKind.u8
 (atT tx_730b8f
 (IntKind.u32.wrap
 (((IntKind.u32.wrap u).tmod
 (10000 : Int)).tmod
 (100 : Int) *
 (2 : Int))))])
 (1 +
 (IntKind.i64.wrap (d - (3 : Int))).toNat *
 1)
 [AV.int IntKind.u8
 (atT tx_730b8f
 (IntKind.u32.wrap
 (IntKind.u32.wrap
 (IntKind.u32.wrap
 (((IntKind.u32.wrap u).tmod
 (10000 : Int)).tdiv
 (100 : Int)) *
 (2 : Int)) +
 (1 : Int))))])
 (1 +
 (IntKind.i64.wrap (d - (4 : Int))).toNat * 1)
 [AV.int IntKind.u8
 (atT tx_730b8f
 (IntKind.u32.wrap
 (IntKind.u32.wrap
 (((IntKind.u32.wrap u).tmod
 (10000 : Int)).tdiv
 (100 : Int)) *
 (2 : Int))))])
 (1 +
 (IntKind.i64.wrap
 (IntKind.i64.wrap (d - (4 : Int)) -
 (1 : Int))).toNat *
 1)
 [AV.int IntKind.u8
 (atT tx_730b8f
 (IntKind.u32.wrap
 (IntKind.u32.wrap
 ((IntKind.u32.wrap
 ((IntKind.u32.wrap u).tdiv
 (10000 : Int))).tmod
 (100 : Int) *
 (2 : Int)) +
 (1 : Int))))])
 (1 +
 (IntKind.i64.wrap
 (IntKind.i64.wrap (d - (4 : Int)) -
 (2 : Int))).toNat *
 1)
 [AV.int IntKind.u8
 (atT tx_730b8f
 (IntKind.u32.wrap
 ((IntKind.u32.wrap
 ((IntKind.u32.wrap u).tdiv
 (10000 : Int))).tmod
 (100 : Int) *
 (2 : Int))))])
 1
 [AV.int IntKind.u8
 (IntKind.u8.wrap
 (IntKind.u32.wrap
 ((48 : Int) +
 IntKind.u32.wrap
 ((IntKind.u32.wrap
 ((IntKind.u32.wrap u).tdiv
 (10000 : Int))).tdiv
 (100 : Int)))))]) ::
 os)
 tk))
 none
 else none)
 (some
 (Fin.ret (AV.tup []),
 St.mk
 (Ob.cells
 (setC
 (setC
 (setC
 (setC
 (setC
 (setC C
 (1 +
 (IntKind.i64.wrap (d - (1 : Int))).toNat * 1)
 [AV.int IntKind.u8
 (atT tx_730b8f
 (IntKind.u32.wrap
 (IntKind.u32.wrap
 (((IntKind.u32.wrap u).tmod
 (10000 : Int)).tmod
 (100 : Int) *
 (2 : Int)) +
 (1 : Int))))])
 (1 +
 (IntKind.i64.wrap (d - (2 : Int))).toNat * 1)
 [AV.int IntKind.u8
 (atT tx_730b8f
 (IntKind.u32.wrap
 (((IntKind.u32.wrap u).tmod (10000 : Int)).tmod
 (100 : Int) *
 (2 : Int))))])
 (1 +
 (IntKind.i64.wrap (d - (3 : Int))).toNat * 1)
 [AV.int IntKind.u8
 (atT tx_730b8f
 (IntKind.u32.wrap
 (IntKind.u32.wrap
 (IntKind.u32.wrap
 (((IntKind.u32.wrap u).tmod
 (10000 : Int)).tdiv
 (100 : Int)) *
 (2 : Int)) +
 (1 : Int))))])
 (1 +
 (IntKind.i64.wrap (d - (4 : Int))).toNat * 1)
 [AV.int IntKind.u8
 (atT tx_730b8f
 (IntKind.u32.wrap
 (IntKind.u32.wrap
 (((IntKind.u32.wrap u).tmod (10000 : Int)).tdiv
 (100 : Int)) *
 (2 : Int))))])
 (1 +
 (IntKind.i64.wrap
 (IntKind.i64.wrap (d - (4 : Int)) - (1 : Int))).toNat *
 1)
 [AV.int IntKind.u8
 (atT tx_730b8f
 (IntKind.u32.wrap
 (IntKind.u32.wrap
 ((IntKind.u32.wrap
 ((IntKind.u32.wrap u).tdiv
 (10000 : Int))).tmod
 (100 : Int) *
 (2 : Int)) +
 (1 : Int))))])
 (1 +
 (IntKind.i64.wrap
 (IntKind.i64.wrap (d - (4 : Int)) - (2 : Int))).toNat *
 1)
 [AV.int IntKind.u8
 (atT tx_730b8f
 (IntKind.u32.wrap
 ((IntKind.u32.wrap
 ((IntKind.u32.wrap u).tdiv (10000 : Int))).tmod
 (100 : Int) *
 (2 : Int))))]) ::
 os)
 tk)))
 none
 else none)
 none
 else none)
 none)
 none)
 (branch (AV.bool (decide (IntKind.i64.wrap (d - (4 : Int)) > (0 : Int))))
 (if (0 : Int) ≤ (0 : Int) ∧ (0 : Int) < (↑n : Int) then
 branch
 (AV.bool
 (true &&
 inC
 (setC
 (setC
 (setC
 (setC C (1 + (IntKind.i64.wrap (d - (1 : Int))).toNat * 1)
 [AV.int IntKind.u8
 (atT tx_730b8f
 (IntKind.u32.wrap
 (IntKind.u32.wrap
 (((IntKind.u32.wrap u).tmod (10000 : Int)).tmod
 (100 : Int) *
 (2 : Int)) +
 (1 : Int))))])
 (1 + (IntKind.i64.wrap (d - (2 : Int))).toNat * 1)
 [AV.int IntKind.u8
 (atT tx_730b8f
 (IntKind.u32.wrap
 (((IntKind.u32.wrap u).tmod (10000 : Int)).tmod (100 : Int) *
 (2 : Int))))])
 (1 + (IntKind.i64.wrap (d - (3 : Int))).toNat * 1)
 [AV.int IntKind.u8
 (atT tx_730b8f
 (IntKind.u32.wrap
 (IntKind.u32.wrap
 (IntKind.u32.wrap
 (((IntKind.u32.wrap u).tmod (10000 : Int)).tdiv
 (100 : Int)) *
 (2 : Int)) +
 (1 : Int))))])
 (1 + (IntKind.i64.wrap (d - (4 : Int))).toNat * 1)
 [AV.int IntKind.u8
 (atT tx_730b8f
 (IntKind.u32.wrap
 (IntKind.u32.wrap
 (((IntKind.u32.wrap u).tmod (10000 : Int)).tdiv (100 : Int)) *
 (2 : Int))))])
 1 1))
 (some
 (Fin.ret (AV.tup []),
 St.mk
 (Ob.cells
 (setC
 (setC
 (setC
 (setC
 (setC C
 (1 + (IntKind.i64.wrap (d - (1 : Int))).toNat * 1)
 [AV.int IntKind.u8
 (atT tx_730b8f
 (IntKind.u32.wrap
 (IntKind.u32.wrap
 (((IntKind.u32.wrap u).tmod (10000 : Int)).tmod
 (100 : Int) *
 (2 : Int)) +
 (1 : Int))))])
 (1 + (IntKind.i64.wrap (d - (2 : Int))).toNat * 1)
 [AV.int IntKind.u8
 (atT tx_730b8f
 (IntKind.u32.wrap
 (((IntKind.u32.wrap u).tmod (10000 : Int)).tmod
 (100 : Int) *
 (2 : Int))))])
 (1 + (IntKind.i64.wrap (d - (3 : Int))).toNat * 1)
 [AV.int IntKind.u8
 (atT tx_730b8f
 (IntKind.u32.wrap
 (IntKind.u32.wrap
 (IntKind.u32.wrap
 (((IntKind.u32.wrap u).tmod (10000 : Int)).tdiv
 (100 : Int)) *
 (2 : Int)) +
 (1 : Int))))])
 (1 + (IntKind.i64.wrap (d - (4 : Int))).toNat * 1)
 [AV.int IntKind.u8
 (atT tx_730b8f
 (IntKind.u32.wrap
 (IntKind.u32.wrap
 (((IntKind.u32.wrap u).tmod (10000 : Int)).tdiv
 (100 : Int)) *
 (2 : Int))))])
 1
 [AV.int IntKind.u8
 (IntKind.u8.wrap
 (IntKind.u32.wrap
 ((48 : Int) +
 IntKind.u32.wrap
 ((IntKind.u32.wrap u).tdiv (10000 : Int)))))]) ::
 os)
 tk))
 none
 else none)
 (some
 (Fin.ret (AV.tup []),
 St.mk
 (Ob.cells
 (setC
 (setC
 (setC
 (setC C (1 + (IntKind.i64.wrap (d - (1 : Int))).toNat * 1)
 [AV.int IntKind.u8
 (atT tx_730b8f
 (IntKind.u32.wrap
 (IntKind.u32.wrap
 (((IntKind.u32.wrap u).tmod (10000 : Int)).tmod
 (100 : Int) *
 (2 : Int)) +
 (1 : Int))))])
 (1 + (IntKind.i64.wrap (d - (2 : Int))).toNat * 1)
 [AV.int IntKind.u8
 (atT tx_730b8f
 (IntKind.u32.wrap
 (((IntKind.u32.wrap u).tmod (10000 : Int)).tmod (100 : Int) *
 (2 : Int))))])
 (1 + (IntKind.i64.wrap (d - (3 : Int))).toNat * 1)
 [AV.int IntKind.u8
 (atT tx_730b8f
 (IntKind.u32.wrap
 (IntKind.u32.wrap
 (IntKind.u32.wrap
 (((IntKind.u32.wrap u).tmod (10000 : Int)).tdiv
 (100 : Int)) *
 (2 : Int)) +
 (1 : Int))))])
 (1 + (IntKind.i64.wrap (d - (4 : Int))).toNat * 1)
 [AV.int IntKind.u8
 (atT tx_730b8f
 (IntKind.u32.wrap
 (IntKind.u32.wrap
 (((IntKind.u32.wrap u).tmod (10000 : Int)).tdiv (100 : Int)) *
 (2 : Int))))]) ::
 os)
 tk))))
 none
 else none)
 none
 else none)
 none)
 none)
 none
 else none)
 none
 else none)
 none)
 none)
 (branch (AV.bool (decide (d ≥ (2 : Int))))
 (branch
 (AV.bool
 (inT tx_730b8f
 (IntKind.u32.wrap (IntKind.u32.wrap ((IntKind.u32.wrap u).tmod (100 : Int) * (2 : Int)) + (1 : Int)))))
 (branch (AV.bool (inT tx_730b8f (IntKind.u32.wrap ((IntKind.u32.wrap u).tmod (100 : Int) * (2 : Int)))))
 (if (0 : Int) ≤ IntKind.i64.wrap (d - (1 : Int)) ∧ IntKind.i64.wrap (d - (1 : Int)) < (↑n : Int) then
 branch (AV.bool (true && inC C (1 + (IntKind.i64.wrap (d - (1 : Int))).toNat * 1) 1))
 (if (0 : Int) ≤ IntKind.i64.wrap (d - (2 : Int)) ∧ IntKind.i64.wrap (d - (2 : Int)) < (↑n : Int) then
 branch
 (AV.bool
 (true &&
 inC
 (setC C (1 + (IntKind.i64.wrap (d - (1 : Int))).toNat * 1)
 [AV.int IntKind.u8
 (atT tx_730b8f
 (IntKind.u32.wrap
 (IntKind.u32.wrap ((IntKind.u32.wrap u).tmod (100 : Int) * (2 : Int)) + (1 : Int))))])
 (1 + (IntKind.i64.wrap (d - (2 : Int))).toNat * 1) 1))
 (branch (AV.bool (decide (IntKind.i64.wrap (d - (2 : Int)) > (0 : Int))))
 (if (0 : Int) ≤ (0 : Int) ∧ (0 : Int) < (↑n : Int) then
 branch
 (AV.bool
 (true &&
 inC
 (setC
 (setC C (1 + (IntKind.i64.wrap (d - (1 : Int))).toNat * 1)
 [AV.int IntKind.u8
 (atT tx_730b8f
 (IntKind.u32.wrap
 (IntKind.u32.wrap ((IntKind.u32.wrap u).tmod (100 : Int) * (2 : Int)) +
 (1 : Int))))])
 (1 + (IntKind.i64.wrap (d - (2 : Int))).toNat * 1)
 [AV.int IntKind.u8
 (atT tx_730b8f
 (IntKind.u32.wrap ((IntKind.u32.wrap u).tmod (100 : Int) * (2 : Int))))])
 1 1))
 (some
 (Fin.ret (AV.tup []),
 St.mk
 (Ob.cells
 (setC
 (setC
 (setC C (1 + (IntKind.i64.wrap (d - (1 : Int))).toNat * 1)
 [AV.int IntKind.u8
 (atT tx_730b8f
 (IntKind.u32.wrap
 (IntKind.u32.wrap ((IntKind.u32.wrap u).tmod (100 : Int) * (2 : Int)) +
 (1 : Int))))])
 (1 + (IntKind.i64.wrap (d - (2 : Int))).toNat * 1)
 [AV.int IntKind.u8
 (atT tx_730b8f
 (IntKind.u32.wrap ((IntKind.u32.wrap u).tmod (100 : Int) * (2 : Int))))])
 1
 [AV.int IntKind.u8
 (IntKind.u8.wrap
 (IntKind.u32.wrap
 ((48 : Int) + IntKind.u32.wrap ((IntKind.u32.wrap u).tdiv (100 : Int)))))]) ::
 os)
 tk))
 none
 else none)
 (some
 (Fin.ret (AV.tup []),
 St.mk
 (Ob.cells
 (setC
 (setC C (1 + (IntKind.i64.wrap (d - (1 : Int))).toNat * 1)
 [AV.int IntKind.u8
 (atT tx_730b8f
 (IntKind.u32.wrap
 (IntKind.u32.wrap ((IntKind.u32.wrap u).tmod (100 : Int) * (2 : Int)) +
 (1 : Int))))])
 (1 + (IntKind.i64.wrap (d - (2 : Int))).toNat * 1)
 [AV.int IntKind.u8
 (atT tx_730b8f
 (IntKind.u32.wrap ((IntKind.u32.wrap u).tmod (100 : Int) * (2 : Int))))]) ::
 os)
 tk)))
 none
 else none)
 none
 else none)
 none)
 none)
 (branch (AV.bool (decide (d > (0 : Int))))
 (if (0 : Int) ≤ (0 : Int) ∧ (0 : Int) < (↑n : Int) then
 branch (AV.bool (true && inC C 1 1))
 (some
 (Fin.ret (AV.tup []),
 St.mk
 (Ob.cells
 (setC C 1
 [AV.int IntKind.u8 (IntKind.u8.wrap (IntKind.u32.wrap ((48 : Int) + IntKind.u32.wrap u)))]) ::
 os)
 tk))
 none
 else none)
 (some (Fin.ret (AV.tup []), St.mk (Ob.cells C :: os) tk)))) := by kernel_rfl

end Go.Proofs.YtcfedmheblbdnaaDoor.V

/- Values: a number's digits, written from the last one on. -/
set_option linter.unusedVariables false
set_option linter.unusedSimpArgs false
namespace Go.Proofs.YtcfedmheblbdnaaDoor.V
open Go Go.V Go.RowKit

theorem sm_tab : ∀ j : Fin 100, (strL tx_730b8f).getD (j.val * 2) 0 = 48 + j.val / 10 ∧ (strL tx_730b8f).getD (j.val * 2 + 1) 0 = 48 + j.val % 10 := by
  rw [tx_730b8f_eq]; decide +kernel
theorem sm_len : 200 ≤ (strL tx_730b8f).length := by rw [tx_730b8f_eq]; decide +kernel
theorem inS {j : Nat} (h : j < 200) : inT tx_730b8f (j : Int) = true := inT_iff.mpr ⟨by omega, by have := sm_len; rw [Int.toNat_natCast]; omega⟩
theorem vEven {a : Nat} (h : a < 100) : atT tx_730b8f ((a * 2 : Nat) : Int) = ((48 + a / 10 : Nat) : Int) := by
  rw [atT, opq_eq, Int.toNat_natCast, (sm_tab ⟨a, h⟩).1]
theorem vOdd {a : Nat} (h : a < 100) : atT tx_730b8f ((a * 2 + 1 : Nat) : Int) = ((48 + a % 10 : Nat) : Int) := by
  rw [atT, opq_eq, Int.toNat_natCast, (sm_tab ⟨a, h⟩).2]
theorem tm8 (a : Nat) : (a : Int).tmod 100000000 = ((a % 100000000 : Nat) : Int) := (Int.ofNat_tmod a 100000000).symm
theorem tm4 (a : Nat) : (a : Int).tmod 10000 = ((a % 10000 : Nat) : Int) := (Int.ofNat_tmod a 10000).symm
theorem tm2 (a : Nat) : (a : Int).tmod 100 = ((a % 100 : Nat) : Int) := (Int.ofNat_tmod a 100).symm
theorem td8 (a : Nat) : (a : Int).tdiv 100000000 = ((a / 100000000 : Nat) : Int) := (Int.ofNat_tdiv a 100000000).symm
theorem td4 (a : Nat) : (a : Int).tdiv 10000 = ((a / 10000 : Nat) : Int) := (Int.ofNat_tdiv a 10000).symm
theorem td2 (a : Nat) : (a : Int).tdiv 100 = ((a / 100 : Nat) : Int) := (Int.ofNat_tdiv a 100).symm
theorem w32 {a : Nat} (h : a < 4294967296) : IntKind.u32.wrap (a : Int) = (a : Nat) := wrapNat rfl (by simpa [IntKind.bits] using h)
theorem w64 {a : Nat} (h : a < 18446744073709551616) : IntKind.u64.wrap (a : Int) = (a : Nat) := wrapNat rfl (by simpa [IntKind.bits] using h)
theorem w8 {a : Nat} (h : a < 256) : IntKind.u8.wrap (a : Int) = (a : Nat) := wrapNat rfl (by simpa [IntKind.bits] using h)
theorem m2 (a : Nat) : (a : Int) * 2 = ((a * 2 : Nat) : Int) := by omega
theorem a1 (a : Nat) : (a : Int) + 1 = ((a + 1 : Nat) : Int) := by omega
theorem a48 (a : Nat) : 48 + (a : Int) = ((48 + a : Nat) : Int) := by omega
theorem ds1 {D : Nat} (h : 1 ≤ D) (hD : D ≤ 1000) : IntKind.i64.wrap ((D : Int) - 1) = ((D - 1 : Nat) : Int) := by rw [wrapS (by omega) (by omega)]; omega
theorem ds2 {D : Nat} (h : 2 ≤ D) (hD : D ≤ 1000) : IntKind.i64.wrap ((D : Int) - 2) = ((D - 2 : Nat) : Int) := by rw [wrapS (by omega) (by omega)]; omega
theorem ds3 {D : Nat} (h : 3 ≤ D) (hD : D ≤ 1000) : IntKind.i64.wrap ((D : Int) - 3) = ((D - 3 : Nat) : Int) := by rw [wrapS (by omega) (by omega)]; omega
theorem ds4 {D : Nat} (h : 4 ≤ D) (hD : D ≤ 1000) : IntKind.i64.wrap ((D : Int) - 4) = ((D - 4 : Nat) : Int) := by rw [wrapS (by omega) (by omega)]; omega
theorem ds5 {D : Nat} (h : 5 ≤ D) (hD : D ≤ 1000) : IntKind.i64.wrap ((D : Int) - 5) = ((D - 5 : Nat) : Int) := by rw [wrapS (by omega) (by omega)]; omega
theorem ds6 {D : Nat} (h : 6 ≤ D) (hD : D ≤ 1000) : IntKind.i64.wrap ((D : Int) - 6) = ((D - 6 : Nat) : Int) := by rw [wrapS (by omega) (by omega)]; omega
theorem ds7 {D : Nat} (h : 7 ≤ D) (hD : D ≤ 1000) : IntKind.i64.wrap ((D : Int) - 7) = ((D - 7 : Nat) : Int) := by rw [wrapS (by omega) (by omega)]; omega
theorem ds8 {D : Nat} (h : 8 ≤ D) (hD : D ≤ 1000) : IntKind.i64.wrap ((D : Int) - 8) = ((D - 8 : Nat) : Int) := by rw [wrapS (by omega) (by omega)]; omega
/-- The last k digits written, the last one at D. -/
def wr (l : List Nat) (U D : Nat) : Nat → List Nat
  | 0 => l
  | k + 1 => (wr l U D k).set (1 + (D - (k + 1))) (48 + U / 10 ^ k % 10)
theorem wr_len (l : List Nat) (U D : Nat) : ∀ k, (wr l U D k).length = l.length
  | 0 => rfl
  | k + 1 => by rw [wr, List.length_set, wr_len l U D k]
theorem wr_add (l : List Nat) (U D a : Nat) : ∀ k, wr (wr l U D a) (U / 10 ^ a) (D - a) k = wr l U D (a + k)
  | 0 => rfl
  | k + 1 => by
    rw [wr, wr_add l U D a k, show a + (k + 1) = (a + k) + 1 by omega, wr, Nat.div_div_eq_div_mul, ← Nat.pow_add, show D - a - (k + 1) = D - (a + k + 1) by omega]
theorem okB {l : List Nat} {o b : Nat} (h : o < l.length) : (true && inC (bC l) o 1) = true := by
  rw [Bool.true_and, inC_iff, bC_length]; omega
theorem fb_step (F m : Nat) (K' : Cont) (n c U D : Nat) (l : List Nat) (os : List Ob) (tk : List (Nat × Nat)) (h8 : 8 ≤ D) (hn : D ≤ n) (hl : l.length = 24) (h20 : n ≤ 20) (hU : U < 18446744073709551616) :
    loopRun (f86_l0.run F) [0, 1, 4] K' m.succ (Env.mk 167 [(0, .ms 0 1 1 n c), (1, .int .u64 (U : Int)), (4, .int .i64 (D : Int))]) ⟨.cells (bC l) :: os, tk⟩
      = loopRun (f86_l0.run F) [0, 1, 4] K' m (Env.mk 167 [(0, .ms 0 1 1 n c), (1, .int .u64 ((U / 10 ^ 8 : Nat) : Int)), (4, .int .i64 ((D - 8 : Nat) : Int))]) ⟨.cells (bC (wr l U D 8)) :: os, tk⟩ := by
  rw [fb_round]
  simp (disch := omega) only [tm8, tm4, tm2, td8, td4, td2, w32, w64, m2, a1, ds1, ds2, ds3, ds4, ds5, ds6, ds7, ds8, vOdd, vEven, Int.toNat_natCast, Nat.mul_one]
  rw [branch_of (decide_eq_true (by omega))]
  simp (disch := (first | omega | (simp only [List.length_set]; omega))) only [setC_byte]
  iterate 24 (first | rw [branch_of (inS (by omega))] | rw [if_pos ⟨by omega, by omega⟩] | rw [branch_of (okB (b := 0) (by first | omega | (simp only [List.length_set]; omega)))])
  have e0 : U % 100000000 % 10000 % 100 % 10 = U / 10 ^ 0 % 10 := by omega
  have e1 : U % 100000000 % 10000 % 100 / 10 = U / 10 ^ 1 % 10 := by omega
  have e2 : U % 100000000 % 10000 / 100 % 10 = U / 10 ^ 2 % 10 := by omega
  have e3 : U % 100000000 % 10000 / 100 / 10 = U / 10 ^ 3 % 10 := by omega
  have e4 : U % 100000000 / 10000 % 100 % 10 = U / 10 ^ 4 % 10 := by omega
  have e5 : U % 100000000 / 10000 % 100 / 10 = U / 10 ^ 5 % 10 := by omega
  have e6 : U % 100000000 / 10000 / 100 % 10 = U / 10 ^ 6 % 10 := by omega
  have e7 : U % 100000000 / 10000 / 100 / 10 = U / 10 ^ 7 % 10 := by omega
  rw [e0, e1, e2, e3, e4, e5, e6, e7]
  rfl
end Go.Proofs.YtcfedmheblbdnaaDoor.V

/- Values: formatBase10, as a whole. -/
set_option linter.unusedVariables false
set_option linter.unusedSimpArgs false
namespace Go.Proofs.YtcfedmheblbdnaaDoor.V
open Go Go.V Go.RowKit

noncomputable def fbK (F : Nat) : Cont := Cont.block 0 (Cont.then (f86_r0.run F (f86.leaveK Fun.done)) (f86.leaveK Fun.done))

theorem fb_t0 (F n c U : Nat) (l : List Nat) (os : List Ob) (tk : List (Nat × Nat)) (hn : 0 ≤ n) (hl : l.length = 24) (h20 : n ≤ 20) (hU : U < 1) :
    fbK F (.exit 0) (Env.mk 167 [(0, .ms 0 1 1 n c), (1, .int .u64 (U : Int)), (4, .int .i64 ((0 : Nat) : Int))]) ⟨.cells (bC l) :: os, tk⟩ = some (.ret (.tup []), ⟨.cells (bC (wr l U 0 0)) :: os, tk⟩) := by
  rw [fbK, fb_out]
  simp (disch := omega) only [tm4, tm2, td4, td2, w32, w64, w8, m2, a1, a48, ds1, ds2, ds3, ds4, vOdd, vEven, Int.toNat_natCast, Nat.mul_one]
  simp (disch := (first | omega | (simp only [List.length_set]; omega))) only [setC_byte]
  rw [branch_not (decide_eq_false (by omega))]
  rw [branch_not (decide_eq_false (by omega))]
  rw [branch_not (decide_eq_false (by omega))]
  rfl

theorem fb_t1 (F n c U : Nat) (l : List Nat) (os : List Ob) (tk : List (Nat × Nat)) (hn : 1 ≤ n) (hl : l.length = 24) (h20 : n ≤ 20) (hU : U < 10) :
    fbK F (.exit 0) (Env.mk 167 [(0, .ms 0 1 1 n c), (1, .int .u64 (U : Int)), (4, .int .i64 ((1 : Nat) : Int))]) ⟨.cells (bC l) :: os, tk⟩ = some (.ret (.tup []), ⟨.cells (bC (wr l U 1 1)) :: os, tk⟩) := by
  rw [fbK, fb_out]
  simp (disch := omega) only [tm4, tm2, td4, td2, w32, w64, w8, m2, a1, a48, ds1, ds2, ds3, ds4, vOdd, vEven, Int.toNat_natCast, Nat.mul_one]
  simp (disch := (first | omega | (simp only [List.length_set]; omega))) only [setC_byte]
  rw [branch_not (decide_eq_false (by omega))]
  rw [branch_not (decide_eq_false (by omega))]
  rw [branch_of (decide_eq_true (by omega))]
  rw [if_pos ⟨by omega, by omega⟩, branch_of (okB (b := 0) (by first | omega | (simp only [List.length_set]; omega)))]
  have ez : 48 + U = 48 + U / 10 ^ 0 % 10 := by omega
  rw [ez]
  rfl

theorem fb_t2 (F n c U : Nat) (l : List Nat) (os : List Ob) (tk : List (Nat × Nat)) (hn : 2 ≤ n) (hl : l.length = 24) (h20 : n ≤ 20) (hU : U < 100) :
    fbK F (.exit 0) (Env.mk 167 [(0, .ms 0 1 1 n c), (1, .int .u64 (U : Int)), (4, .int .i64 ((2 : Nat) : Int))]) ⟨.cells (bC l) :: os, tk⟩ = some (.ret (.tup []), ⟨.cells (bC (wr l U 2 2)) :: os, tk⟩) := by
  rw [fbK, fb_out]
  simp (disch := omega) only [tm4, tm2, td4, td2, w32, w64, w8, m2, a1, a48, ds1, ds2, ds3, ds4, vOdd, vEven, Int.toNat_natCast, Nat.mul_one]
  simp (disch := (first | omega | (simp only [List.length_set]; omega))) only [setC_byte]
  rw [branch_not (decide_eq_false (by omega))]
  rw [branch_of (decide_eq_true (by omega))]
  rw [branch_of (inS (by omega)), branch_of (inS (by omega))]
  rw [if_pos ⟨by omega, by omega⟩, branch_of (okB (b := 0) (by first | omega | (simp only [List.length_set]; omega)))]
  rw [if_pos ⟨by omega, by omega⟩, branch_of (okB (b := 0) (by first | omega | (simp only [List.length_set]; omega)))]
  rw [branch_not (decide_eq_false (by omega))]
  have e0 : U % 100 % 10 = U / 10 ^ 0 % 10 := by omega
  have e1 : U % 100 / 10 = U / 10 ^ 1 % 10 := by omega
  rw [e0, e1]
  rfl

theorem fb_t3 (F n c U : Nat) (l : List Nat) (os : List Ob) (tk : List (Nat × Nat)) (hn : 3 ≤ n) (hl : l.length = 24) (h20 : n ≤ 20) (hU : U < 1000) :
    fbK F (.exit 0) (Env.mk 167 [(0, .ms 0 1 1 n c), (1, .int .u64 (U : Int)), (4, .int .i64 ((3 : Nat) : Int))]) ⟨.cells (bC l) :: os, tk⟩ = some (.ret (.tup []), ⟨.cells (bC (wr l U 3 3)) :: os, tk⟩) := by
  rw [fbK, fb_out]
  simp (disch := omega) only [tm4, tm2, td4, td2, w32, w64, w8, m2, a1, a48, ds1, ds2, ds3, ds4, vOdd, vEven, Int.toNat_natCast, Nat.mul_one]
  simp (disch := (first | omega | (simp only [List.length_set]; omega))) only [setC_byte]
  rw [branch_not (decide_eq_false (by omega))]
  rw [branch_of (decide_eq_true (by omega))]
  rw [branch_of (inS (by omega)), branch_of (inS (by omega))]
  rw [if_pos ⟨by omega, by omega⟩, branch_of (okB (b := 0) (by first | omega | (simp only [List.length_set]; omega)))]
  rw [if_pos ⟨by omega, by omega⟩, branch_of (okB (b := 0) (by first | omega | (simp only [List.length_set]; omega)))]
  rw [branch_of (decide_eq_true (by omega))]
  rw [if_pos ⟨by omega, by omega⟩, branch_of (okB (b := 0) (by first | omega | (simp only [List.length_set]; omega)))]
  have e0 : U % 100 % 10 = U / 10 ^ 0 % 10 := by omega
  have e1 : U % 100 / 10 = U / 10 ^ 1 % 10 := by omega
  rw [e0, e1]
  have ez : U / 100 = U / 10 ^ 2 % 10 := by omega
  rw [ez]
  rfl

theorem fb_t4 (F n c U : Nat) (l : List Nat) (os : List Ob) (tk : List (Nat × Nat)) (hn : 4 ≤ n) (hl : l.length = 24) (h20 : n ≤ 20) (hU : U < 10000) :
    fbK F (.exit 0) (Env.mk 167 [(0, .ms 0 1 1 n c), (1, .int .u64 (U : Int)), (4, .int .i64 ((4 : Nat) : Int))]) ⟨.cells (bC l) :: os, tk⟩ = some (.ret (.tup []), ⟨.cells (bC (wr l U 4 4)) :: os, tk⟩) := by
  rw [fbK, fb_out]
  simp (disch := omega) only [tm4, tm2, td4, td2, w32, w64, w8, m2, a1, a48, ds1, ds2, ds3, ds4, vOdd, vEven, Int.toNat_natCast, Nat.mul_one]
  simp (disch := (first | omega | (simp only [List.length_set]; omega))) only [setC_byte]
  rw [branch_of (decide_eq_true (by omega))]
  rw [branch_of (inS (by omega)), branch_of (inS (by omega))]
  rw [if_pos ⟨by omega, by omega⟩, branch_of (okB (b := 0) (by first | omega | (simp only [List.length_set]; omega)))]
  rw [if_pos ⟨by omega, by omega⟩, branch_of (okB (b := 0) (by first | omega | (simp only [List.length_set]; omega)))]
  rw [branch_of (inS (by omega)), branch_of (inS (by omega))]
  rw [if_pos ⟨by omega, by omega⟩, branch_of (okB (b := 0) (by first | omega | (simp only [List.length_set]; omega)))]
  rw [if_pos ⟨by omega, by omega⟩, branch_of (okB (b := 0) (by first | omega | (simp only [List.length_set]; omega)))]
  rw [branch_not (decide_eq_false (by omega))]
  rw [branch_not (decide_eq_false (by omega))]
  have e0 : U % 10000 % 100 % 10 = U / 10 ^ 0 % 10 := by omega
  have e1 : U % 10000 % 100 / 10 = U / 10 ^ 1 % 10 := by omega
  have e2 : U % 10000 / 100 % 10 = U / 10 ^ 2 % 10 := by omega
  have e3 : U % 10000 / 100 / 10 = U / 10 ^ 3 % 10 := by omega
  rw [e0, e1, e2, e3]
  rfl

theorem fb_t5 (F n c U : Nat) (l : List Nat) (os : List Ob) (tk : List (Nat × Nat)) (hn : 5 ≤ n) (hl : l.length = 24) (h20 : n ≤ 20) (hU : U < 100000) :
    fbK F (.exit 0) (Env.mk 167 [(0, .ms 0 1 1 n c), (1, .int .u64 (U : Int)), (4, .int .i64 ((5 : Nat) : Int))]) ⟨.cells (bC l) :: os, tk⟩ = some (.ret (.tup []), ⟨.cells (bC (wr l U 5 5)) :: os, tk⟩) := by
  rw [fbK, fb_out]
  simp (disch := omega) only [tm4, tm2, td4, td2, w32, w64, w8, m2, a1, a48, ds1, ds2, ds3, ds4, vOdd, vEven, Int.toNat_natCast, Nat.mul_one]
  simp (disch := (first | omega | (simp only [List.length_set]; omega))) only [setC_byte]
  rw [branch_of (decide_eq_true (by omega))]
  rw [branch_of (inS (by omega)), branch_of (inS (by omega))]
  rw [if_pos ⟨by omega, by omega⟩, branch_of (okB (b := 0) (by first | omega | (simp only [List.length_set]; omega)))]
  rw [if_pos ⟨by omega, by omega⟩, branch_of (okB (b := 0) (by first | omega | (simp only [List.length_set]; omega)))]
  rw [branch_of (inS (by omega)), branch_of (inS (by omega))]
  rw [if_pos ⟨by omega, by omega⟩, branch_of (okB (b := 0) (by first | omega | (simp only [List.length_set]; omega)))]
  rw [if_pos ⟨by omega, by omega⟩, branch_of (okB (b := 0) (by first | omega | (simp only [List.length_set]; omega)))]
  rw [branch_not (decide_eq_false (by omega))]
  rw [branch_of (decide_eq_true (by omega))]
  rw [if_pos ⟨by omega, by omega⟩, branch_of (okB (b := 0) (by first | omega | (simp only [List.length_set]; omega)))]
  have e0 : U % 10000 % 100 % 10 = U / 10 ^ 0 % 10 := by omega
  have e1 : U % 10000 % 100 / 10 = U / 10 ^ 1 % 10 := by omega
  have e2 : U % 10000 / 100 % 10 = U / 10 ^ 2 % 10 := by omega
  have e3 : U % 10000 / 100 / 10 = U / 10 ^ 3 % 10 := by omega
  rw [e0, e1, e2, e3]
  have ez : U / 10000 = U / 10 ^ 4 % 10 := by omega
  rw [ez]
  rfl

theorem fb_t6 (F n c U : Nat) (l : List Nat) (os : List Ob) (tk : List (Nat × Nat)) (hn : 6 ≤ n) (hl : l.length = 24) (h20 : n ≤ 20) (hU : U < 1000000) :
    fbK F (.exit 0) (Env.mk 167 [(0, .ms 0 1 1 n c), (1, .int .u64 (U : Int)), (4, .int .i64 ((6 : Nat) : Int))]) ⟨.cells (bC l) :: os, tk⟩ = some (.ret (.tup []), ⟨.cells (bC (wr l U 6 6)) :: os, tk⟩) := by
  rw [fbK, fb_out]
  simp (disch := omega) only [tm4, tm2, td4, td2, w32, w64, w8, m2, a1, a48, ds1, ds2, ds3, ds4, vOdd, vEven, Int.toNat_natCast, Nat.mul_one]
  simp (disch := (first | omega | (simp only [List.length_set]; omega))) only [setC_byte]
  rw [branch_of (decide_eq_true (by omega))]
  rw [branch_of (inS (by omega)), branch_of (inS (by omega))]
  rw [if_pos ⟨by omega, by omega⟩, branch_of (okB (b := 0) (by first | omega | (simp only [List.length_set]; omega)))]
  rw [if_pos ⟨by omega, by omega⟩, branch_of (okB (b := 0) (by first | omega | (simp only [List.length_set]; omega)))]
  rw [branch_of (inS (by omega)), branch_of (inS (by omega))]
  rw [if_pos ⟨by omega, by omega⟩, branch_of (okB (b := 0) (by first | omega | (simp only [List.length_set]; omega)))]
  rw [if_pos ⟨by omega, by omega⟩, branch_of (okB (b := 0) (by first | omega | (simp only [List.length_set]; omega)))]
  rw [branch_of (decide_eq_true (by omega))]
  rw [branch_of (inS (by omega)), branch_of (inS (by omega))]
  rw [if_pos ⟨by omega, by omega⟩, branch_of (okB (b := 0) (by first | omega | (simp only [List.length_set]; omega)))]
  rw [if_pos ⟨by omega, by omega⟩, branch_of (okB (b := 0) (by first | omega | (simp only [List.length_set]; omega)))]
  rw [branch_not (decide_eq_false (by omega))]
  have e0 : U % 10000 % 100 % 10 = U / 10 ^ 0 % 10 := by omega
  have e1 : U % 10000 % 100 / 10 = U / 10 ^ 1 % 10 := by omega
  have e2 : U % 10000 / 100 % 10 = U / 10 ^ 2 % 10 := by omega
  have e3 : U % 10000 / 100 / 10 = U / 10 ^ 3 % 10 := by omega
  have e4 : U / 10000 % 100 % 10 = U / 10 ^ 4 % 10 := by omega
  have e5 : U / 10000 % 100 / 10 = U / 10 ^ 5 % 10 := by omega
  rw [e0, e1, e2, e3, e4, e5]
  rfl

theorem fb_t7 (F n c U : Nat) (l : List Nat) (os : List Ob) (tk : List (Nat × Nat)) (hn : 7 ≤ n) (hl : l.length = 24) (h20 : n ≤ 20) (hU : U < 10000000) :
    fbK F (.exit 0) (Env.mk 167 [(0, .ms 0 1 1 n c), (1, .int .u64 (U : Int)), (4, .int .i64 ((7 : Nat) : Int))]) ⟨.cells (bC l) :: os, tk⟩ = some (.ret (.tup []), ⟨.cells (bC (wr l U 7 7)) :: os, tk⟩) := by
  rw [fbK, fb_out]
  simp (disch := omega) only [tm4, tm2, td4, td2, w32, w64, w8, m2, a1, a48, ds1, ds2, ds3, ds4, vOdd, vEven, Int.toNat_natCast, Nat.mul_one]
  simp (disch := (first | omega | (simp only [List.length_set]; omega))) only [setC_byte]
  rw [branch_of (decide_eq_true (by omega))]
  rw [branch_of (inS (by omega)), branch_of (inS (by omega))]
  rw [if_pos ⟨by omega, by omega⟩, branch_of (okB (b := 0) (by first | omega | (simp only [List.length_set]; omega)))]
  rw [if_pos ⟨by omega, by omega⟩, branch_of (okB (b := 0) (by first | omega | (simp only [List.length_set]; omega)))]
  rw [branch_of (inS (by omega)), branch_of (inS (by omega))]
  rw [if_pos ⟨by omega, by omega⟩, branch_of (okB (b := 0) (by first | omega | (simp only [List.length_set]; omega)))]
  rw [if_pos ⟨by omega, by omega⟩, branch_of (okB (b := 0) (by first | omega | (simp only [List.length_set]; omega)))]
  rw [branch_of (decide_eq_true (by omega))]
  rw [branch_of (inS (by omega)), branch_of (inS (by omega))]
  rw [if_pos ⟨by omega, by omega⟩, branch_of (okB (b := 0) (by first | omega | (simp only [List.length_set]; omega)))]
  rw [if_pos ⟨by omega, by omega⟩, branch_of (okB (b := 0) (by first | omega | (simp only [List.length_set]; omega)))]
  rw [branch_of (decide_eq_true (by omega))]
  rw [if_pos ⟨by omega, by omega⟩, branch_of (okB (b := 0) (by first | omega | (simp only [List.length_set]; omega)))]
  have e0 : U % 10000 % 100 % 10 = U / 10 ^ 0 % 10 := by omega
  have e1 : U % 10000 % 100 / 10 = U / 10 ^ 1 % 10 := by omega
  have e2 : U % 10000 / 100 % 10 = U / 10 ^ 2 % 10 := by omega
  have e3 : U % 10000 / 100 / 10 = U / 10 ^ 3 % 10 := by omega
  have e4 : U / 10000 % 100 % 10 = U / 10 ^ 4 % 10 := by omega
  have e5 : U / 10000 % 100 / 10 = U / 10 ^ 5 % 10 := by omega
  rw [e0, e1, e2, e3, e4, e5]
  have ez : U / 10000 / 100 = U / 10 ^ 6 % 10 := by omega
  rw [ez]
  rfl

theorem fb_tail (F n c U D : Nat) (l : List Nat) (os : List Ob) (tk : List (Nat × Nat)) (h8 : D < 8) (hn : D ≤ n) (hl : l.length = 24) (h20 : n ≤ 20) (hU : U < 10 ^ D) :
    fbK F (.exit 0) (Env.mk 167 [(0, .ms 0 1 1 n c), (1, .int .u64 (U : Int)), (4, .int .i64 (D : Int))]) ⟨.cells (bC l) :: os, tk⟩ = some (.ret (.tup []), ⟨.cells (bC (wr l U D D)) :: os, tk⟩) := by
  match D, h8, hn, hU with
  | 0, _, hn, hU => exact fb_t0 F n c U l os tk hn hl h20 hU
  | 1, _, hn, hU => exact fb_t1 F n c U l os tk hn hl h20 hU
  | 2, _, hn, hU => exact fb_t2 F n c U l os tk hn hl h20 hU
  | 3, _, hn, hU => exact fb_t3 F n c U l os tk hn hl h20 hU
  | 4, _, hn, hU => exact fb_t4 F n c U l os tk hn hl h20 hU
  | 5, _, hn, hU => exact fb_t5 F n c U l os tk hn hl h20 hU
  | 6, _, hn, hU => exact fb_t6 F n c U l os tk hn hl h20 hU
  | 7, _, hn, hU => exact fb_t7 F n c U l os tk hn hl h20 hU
theorem fb_all (F n c : Nat) (os : List Ob) (tk : List (Nat × Nat)) (h20 : n ≤ 20) : ∀ (m D U : Nat) (l : List Nat), D < 8 * m → D ≤ n → l.length = 24 → U < 10 ^ D → U < 18446744073709551616 →
    loopRun (f86_l0.run F) [0, 1, 4] (fbK F) m (Env.mk 167 [(0, .ms 0 1 1 n c), (1, .int .u64 (U : Int)), (4, .int .i64 (D : Int))]) ⟨.cells (bC l) :: os, tk⟩ = some (.ret (.tup []), ⟨.cells (bC (wr l U D D)) :: os, tk⟩)
  | 0, D, U, l, h, _, _, _, _ => by omega
  | m + 1, D, U, l, h, hn, hl, hU, hU2 => by
    rw [show m + 1 = m.succ from rfl]
    by_cases h8 : D < 8
    · rw [fb_round, branch_not (decide_eq_false (by omega))]
      exact fb_tail F n c U D l os tk h8 hn hl h20 hU
    · have hd : U / 10 ^ 8 < 10 ^ (D - 8) := by
        rw [Nat.div_lt_iff_lt_mul (by decide), ← Nat.pow_add, show D - 8 + 8 = D by omega]; exact hU
      rw [fb_step F m (fbK F) n c U D l os tk (by omega) hn hl h20 hU2, fb_all F n c os tk h20 m (D - 8) (U / 10 ^ 8) _ (by omega) (by omega) (by rw [wr_len]; exact hl) hd (Nat.lt_of_le_of_lt (Nat.div_le_self _ _) hU2), wr_add, show 8 + (D - 8) = D by omega]
theorem fb_eq {F : Nat} (hF : 2 < F) (n c U : Nat) (l : List Nat) (os : List Ob) (tk : List (Nat × Nat)) (h20 : n ≤ 20) (hl : l.length = 24) (hU : U < 10 ^ n) (hU2 : U < 18446744073709551616) :
    f86.run F [.ms 0 1 1 n c, .int .u64 (U : Int)] ⟨.cells (bC l) :: os, tk⟩ = some (.ret (.tup []), ⟨.cells (bC (wr l U n n)) :: os, tk⟩) := by
  rw [fb_run]
  exact fb_all F n c os tk h20 F n U l (by omega) (Nat.le_refl _) hl hU hU2
end Go.Proofs.YtcfedmheblbdnaaDoor.V

/- Values: formatBase10 and small, as callees. -/
set_option linter.unusedVariables false
namespace Go.Proofs.YtcfedmheblbdnaaDoor.V
open Go Go.V Go.RowKit

def unB (C : List AV) : List Nat := C.map fun x => (hdI [x]).toNat
theorem unB_bC (l : List Nat) : unB (bC l) = l := by
  simp only [unB, bC, List.map_map]
  conv => rhs; rw [← List.map_id l]
  exact List.map_congr_left fun x _ => rfl
noncomputable def fbOk (C : List AV) (n : Nat) (u : Int) : Bool := cdec (C = bC (unB C) ∧ C.length = 24 ∧ n ≤ 20 ∧ 0 ≤ u ∧ u < ((10 ^ n : Nat) : Int) ∧ u < 18446744073709551616)
noncomputable def wrC (C : List AV) (u : Int) (n : Nat) : List AV := opq (bC (wr (unB C) u.toNat n n))
/-- formatBase10 of the one array, from its second byte on. -/
noncomputable def s86 : OrcS Tryd.prog := f86.cps
  (fun args st k => match args with
    | [.ms 0 1 1 n c, .int .u64 u] => match st.objs with
      | .cells C :: os => match fbOk C n u with
        | true => k (.ret (.tup [])) ⟨.cells (wrC C u n) :: os, st.tk⟩
        | false => none
      | _ => none
    | _ => none)
  fun args st k fin h => by
    obtain ⟨objs, tk⟩ := st
    split at h
    · rename_i n c u
      simp only at h
      split at h
      · rename_i C os
        split at h
        · rename_i hk
          obtain ⟨h1, h2, h3, h4, h5, h6⟩ := cdec_iff.mp hk
          obtain ⟨U, rfl⟩ := Int.eq_ofNat_of_zero_le h4
          have hr := fb_eq (F := 3) (by omega) n c U (unB C) os tk h3 (by simp [unB, h2]) (by omega) (by omega)
          rw [← h1] at hr
          refine ⟨_, _, h, 3, ?_⟩
          rw [hr, wrC, opq_eq, Int.toNat_natCast]
        · cases h
      · cases h
    · cases h
/-- The last n digits of a number. -/
def digs (U n : Nat) : List Nat := (List.range n).map fun j => 48 + U / 10 ^ (n - 1 - j) % 10
theorem sm_sub {i : Nat} (h : i < 100) : ((strL tx_730b8f).take (i * 2 + 2)).drop (i * 2) = digs i 2 := by
  have h1 := sm_len
  have h2 := sm_tab ⟨i, h⟩
  simp only [List.getD_eq_getElem?_getD] at h2
  rw [List.getElem?_eq_getElem (by omega), List.getElem?_eq_getElem (by omega)] at h2
  simp only [Option.getD_some] at h2
  rw [List.drop_take, show i * 2 + 2 - i * 2 = 2 by omega, List.drop_eq_getElem_cons (by omega), List.drop_eq_getElem_cons (by omega), List.take_succ_cons, List.take_succ_cons, List.take_zero, h2.1, h2.2]
  show [48 + i / 10, 48 + i % 10] = [48 + i / 10 ^ 1 % 10, 48 + i / 10 ^ 0 % 10]
  rw [show i / 10 ^ 1 % 10 = i / 10 by omega, show i / 10 ^ 0 % 10 = i % 10 by omega]
end Go.Proofs.YtcfedmheblbdnaaDoor.V

/- The functions' pieces, as told by gen.py. -/
set_option linter.unusedVariables false
set_option maxRecDepth 20000
namespace Go.Proofs.YtcfedmheblbdnaaDoor.V
open Go Go.V Go.RowKit

theorem ze105 : (Tryd.prog.info? 105).bind (·.zero) = some (.agg #[(.int .u8 0), (.int .u8 0), (.int .u8 0), (.int .u8 0), (.int .u8 0), (.int .u8 0), (.int .u8 0), (.int .u8 0), (.int .u8 0), (.int .u8 0), (.int .u8 0), (.int .u8 0), (.int .u8 0), (.int .u8 0), (.int .u8 0), (.int .u8 0), (.int .u8 0), (.int .u8 0), (.int .u8 0), (.int .u8 0), (.int .u8 0), (.int .u8 0), (.int .u8 0), (.int .u8 0)]) := by kernel_rfl

/-! ### 72: internal/strconv.FormatInt (2, 3); results 4; slots: 0 i, 1 base, 2 i, 3 base, 5 a, 6 u, 7 nd, 8 _, 9 s -/
noncomputable def f72_b : Sim Tryd.prog :=
 (.seq (.live [0, 1] (.region 0 [
 ⟨(opAssign (some 4) (.const (Value.string { data := #[] })) 9 "itoa.go:29" #[]).op, none⟩
 ] (by kernel_rfl)))
 (.seq (.seq (.live [0, 1, 11] (.region 1 [
 ⟨(opMove (some 10) (.tmp 1) 3 "itoa.go:30" #[]).op, none⟩,
 ⟨(opBin (some 11) .eql 3 (.tmp 10) (.const (Value.int IntKind.i64 10)) 3 4 "itoa.go:30" #[eD 0]).op, none⟩
 ] (by kernel_rfl)))
 (.cond (.tmp 11)
 (.seq (.seq (.live [0, 17] (.region 2 [
 ⟨(opMove (some 12) (.tmp 0) 2 "itoa.go:31" #[]).op, none⟩,
 ⟨(opBin (some 13) .leq 2 (.const (Value.int IntKind.i64 0)) (.tmp 12) 2 4 "itoa.go:31" #[eD 0]).op, none⟩,
 ⟨(opMove (some 14) (.tmp 13) 4 "itoa.go:31" #[eD 1]).op, none⟩,
 ⟨(opMove (some 15) (.tmp 0) 2 "itoa.go:31" #[eG 2]).op, (some (2, 14, true))⟩,
 ⟨(opBin (some 16) .lss 2 (.tmp 15) (.const (Value.int IntKind.i64 100)) 2 4 "itoa.go:31" #[eD 3, eG 2]).op, (some (2, 14, true))⟩,
 ⟨(opPick (some 17) (.tmp 14) (.tmp 16) (.const (Value.bool false)) 4 "itoa.go:31" #[eD 2, eD 4]).op, none⟩
 ] (by kernel_rfl)))
 (.cond (.tmp 17)
 (.seq (.live [4] (.region 3 [
 ⟨(opMove (some 18) (.tmp 0) 2 "itoa.go:32" #[]).op, none⟩,
 ⟨opCall (f84.orc 0) (some 19) [(.tmp 18)] #[3] 9 "itoa.go:32" #[eD 0], none⟩,
 ⟨(opAssign (some 4) (.tmp 19) 9 "itoa.go:32" #[eD 1, eC 1, eP 0, eP 1]).op, none⟩
 ] (by kernel_rfl)))
 (.live [4] .ret))
 .skip))
 (.seq (.live [0, 5] (.region 4 [
 ⟨(opAllocZ 24 (AV.int .u8 0) (some 5) 105 (.agg #[(.int .u8 0), (.int .u8 0), (.int .u8 0), (.int .u8 0), (.int .u8 0), (.int .u8 0), (.int .u8 0), (.int .u8 0), (.int .u8 0), (.int .u8 0), (.int .u8 0), (.int .u8 0), (.int .u8 0), (.int .u8 0), (.int .u8 0), (.int .u8 0), (.int .u8 0), (.int .u8 0), (.int .u8 0), (.int .u8 0), (.int .u8 0), (.int .u8 0), (.int .u8 0), (.int .u8 0)]) ze105 (by kernel_rfl) 0 "itoa.go:34" #[]).op, none⟩
 ] (by kernel_rfl)))
 (.seq (.live [0, 5, 6] (.region 5 [
 ⟨(opMove (some 20) (.tmp 0) 2 "itoa.go:35" #[]).op, none⟩,
 ⟨(opConvInt (some 21) 2 84 (.tmp 20) (.int .i64) Tryd.underlying2 .u64 Tryd.underlying84 84 "itoa.go:35" #[eD 0]).op, none⟩,
 ⟨(opAssign (some 6) (.tmp 21) 84 "itoa.go:35" #[eD 1, eP 0, eP 1]).op, none⟩
 ] (by kernel_rfl)))
 (.seq (.seq (.live [0, 5, 6, 23] (.region 6 [
 ⟨(opMove (some 22) (.tmp 0) 2 "itoa.go:36" #[]).op, none⟩,
 ⟨(opBin (some 23) .lss 2 (.tmp 22) (.const (Value.int IntKind.i64 0)) 2 4 "itoa.go:36" #[eD 0]).op, none⟩
 ] (by kernel_rfl)))
 (.cond (.tmp 23)
 (.live [0, 5, 6] (.region 7 [
 ⟨(opMove (some 24) (.tmp 6) 84 "itoa.go:37" #[]).op, none⟩,
 ⟨(opNeg (some 25) 84 (.tmp 24) 84 "itoa.go:37" #[eD 0]).op, none⟩,
 ⟨(opAssign (some 6) (.tmp 25) 84 "itoa.go:37" #[eD 1, eP 0, eP 1]).op, none⟩
 ] (by kernel_rfl)))
 .skip))
 (.seq (.live [0, 5, 6, 7] (.region 8 [
 ⟨(opMove (some 26) (.tmp 6) 84 "itoa.go:39" #[]).op, none⟩,
 ⟨(opCallP p85 (some 27) [(.tmp 26)] #[84] 3 "itoa.go:39" #[eD 0]).op, none⟩,
 ⟨(opAssign (some 7) (.tmp 27) 3 "itoa.go:39" #[eD 1, eC 1, eP 0, eP 1]).op, none⟩
 ] (by kernel_rfl)))
 (.seq (.live [0, 5, 7] (.region 9 [
 ⟨(opMove (some 28) (.tmp 7) 3 "itoa.go:40" #[]).op, none⟩,
 ⟨(opBin (some 29) .add 3 (.const (Value.int IntKind.i64 1)) (.tmp 28) 3 3 "itoa.go:40" #[eD 0]).op, none⟩,
 ⟨(opSliceB (some 30) 105 (.tmp 5) (some (.const (Value.int IntKind.i64 1))) (some (.tmp 29)) none 24 5 1 Tryd.underlying105 (by decide) sz5 46 "itoa.go:40" #[eD 1]).op, none⟩,
 ⟨(opMove (some 31) (.tmp 6) 84 "itoa.go:40" #[]).op, none⟩,
 ⟨opCall (s86).orc (some 32) [(.tmp 30), (.tmp 31)] #[46, 84] 0 "itoa.go:40" #[eD 2, eD 3], none⟩
 ] (by kernel_rfl)))
 (.seq (.seq (.live [5, 7, 34] (.region 10 [
 ⟨(opMove (some 33) (.tmp 0) 2 "itoa.go:41" #[]).op, none⟩,
 ⟨(opBin (some 34) .lss 2 (.tmp 33) (.const (Value.int IntKind.i64 0)) 2 4 "itoa.go:41" #[eD 0]).op, none⟩
 ] (by kernel_rfl)))
 (.cond (.tmp 34)
 (.seq (.live [5, 7] (.region 11 [
 ⟨(opIndexAddrA (some 35) 105 (.tmp 5) (.const (Value.int IntKind.i64 0)) 24 5 1 Tryd.underlying105 sz5 0 "itoa.go:42" #[]).op, none⟩,
 ⟨(opStore none 5 (.tmp 35) (.const (Value.int IntKind.u8 45)) 1 sz5 0 "itoa.go:42" #[eD 0]).op, none⟩
 ] (by kernel_rfl)))
 (.seq (.live [4] (.region 12 [
 ⟨(opMove (some 36) (.tmp 7) 3 "itoa.go:43" #[]).op, none⟩,
 ⟨(opBin (some 37) .add 3 (.const (Value.int IntKind.i64 1)) (.tmp 36) 3 3 "itoa.go:43" #[eD 0]).op, none⟩,
 ⟨(opSliceB (some 38) 105 (.tmp 5) none (some (.tmp 37)) none 24 5 1 Tryd.underlying105 (by decide) sz5 46 "itoa.go:43" #[eD 1]).op, none⟩,
 ⟨(opBytesStr (some 39) 46 9 (.tmp 38) 5 Tryd.underlying46 Tryd.underlying5 Tryd.underlying9 9 "itoa.go:43" #[eD 2]).op, none⟩,
 ⟨(opAssign (some 4) (.tmp 39) 9 "itoa.go:43" #[eD 3, eP 0, eP 1, eP 2, eP 3]).op, none⟩
 ] (by kernel_rfl)))
 (.live [4] .ret)))
 .skip))
 (.seq (.live [4] (.region 13 [
 ⟨(opMove (some 40) (.tmp 7) 3 "itoa.go:45" #[]).op, none⟩,
 ⟨(opBin (some 41) .add 3 (.const (Value.int IntKind.i64 1)) (.tmp 40) 3 3 "itoa.go:45" #[eD 0]).op, none⟩,
 ⟨(opSliceB (some 42) 105 (.tmp 5) (some (.const (Value.int IntKind.i64 1))) (some (.tmp 41)) none 24 5 1 Tryd.underlying105 (by decide) sz5 46 "itoa.go:45" #[eD 1]).op, none⟩,
 ⟨(opBytesStr (some 43) 46 9 (.tmp 42) 5 Tryd.underlying46 Tryd.underlying5 Tryd.underlying9 9 "itoa.go:45" #[eD 2]).op, none⟩,
 ⟨(opAssign (some 4) (.tmp 43) 9 "itoa.go:45" #[eD 3, eP 0, eP 1, eP 2, eP 3]).op, none⟩
 ] (by kernel_rfl)))
 (.live [4] .ret)))))))))
 .skip))
 (.seq (.live [9] (.region 14 [
 ⟨(opMove (some 45) (.tmp 0) 2 "itoa.go:47" #[]).op, none⟩,
 ⟨(opConvInt (some 46) 2 84 (.tmp 45) (.int .i64) Tryd.underlying2 .u64 Tryd.underlying84 84 "itoa.go:47" #[eD 0]).op, none⟩,
 ⟨(opMove (some 47) (.tmp 1) 3 "itoa.go:47" #[]).op, none⟩,
 ⟨(opMove (some 48) (.tmp 0) 2 "itoa.go:47" #[]).op, none⟩,
 ⟨(opBin (some 49) .lss 2 (.tmp 48) (.const (Value.int IntKind.i64 0)) 2 4 "itoa.go:47" #[eD 3]).op, none⟩,
 ⟨opCall (Orc.dead 87 Tryd.f87 Tryd.func87 (by kernel_rfl) (by kernel_rfl)) (some 50) [(.const (Value.slice none 0 0)), (.tmp 46), (.tmp 47), (.tmp 49), (.const (Value.bool false))] #[46, 84, 3, 4, 4] 107 "itoa.go:47" #[eD 1, eD 2, eD 4], none⟩,
 ⟨(opMove (some 44) (.tmp 50) 107 "itoa.go:47" #[eD 5]).op, none⟩,
 ⟨(opExtract (some 51) (.tmp 44) 0 46 "itoa.go:47" #[eD 6]).op, none⟩,
 ⟨(opExtract (some 52) (.tmp 44) 1 9 "itoa.go:47" #[eD 6, { on := 9, ground := (Ground.gcOnly Departure.lateStores) }]).op, none⟩,
 ⟨(opAssign (some 8) (.tmp 51) 46 "itoa.go:47" #[eD 7, eC 5, eP 0, eP 1, eP 2, eP 3, eP 4, eP 5, eP 6, eP 7, { on := 8, ground := (Ground.textOnly Departure.lateStores) }]).op, none⟩,
 ⟨(opAssign (some 9) (.tmp 52) 9 "itoa.go:47" #[eD 8, eC 9, eP 0, eP 1, eP 2, eP 3, eP 4, eP 5, eP 6, eP 7, eP 8, eP 9]).op, none⟩
 ] (by kernel_rfl)))
 (.seq (.live [4] (.region 15 [
 ⟨(opMove (some 53) (.tmp 9) 9 "itoa.go:48" #[]).op, none⟩,
 ⟨(opAssign (some 4) (.tmp 53) 9 "itoa.go:48" #[eD 0, eP 0]).op, none⟩
 ] (by kernel_rfl)))
 (.live [4] .ret)))))

noncomputable def f72 : Fun Tryd.prog where
 id := 72
 fn := Tryd.f72
 hf := Tryd.func72
 hname := by kernel_rfl
 body := f72_b
 hbody := by kernel_rfl
 res := [rTmp 4]
 hres := by kernel_rfl
 n := 54
 hn := by kernel_rfl

end Go.Proofs.YtcfedmheblbdnaaDoor.V

/- What the functions' runs come to; the right sides were printed by a tool, Lean checks them. -/
set_option linter.unusedVariables false
set_option maxRecDepth 100000
namespace Go.Proofs.YtcfedmheblbdnaaDoor.V
open Go Go.V Go.RowKit

theorem fi_run (F : Nat) (i : Int) :
 (f72.run F [.int .i64 i, .int .i64 10] ⟨[], []⟩ : Ans) =
 branch (AV.bool (decide ((0 : Int) ≤ i)))
 (branch (AV.bool (decide (i < (100 : Int))))
 (branch (AV.bool (decide (i < (10 : Int))))
 (branch (AV.bool (inSl tx_b18925 i (IntKind.i64.wrap (i + (1 : Int)))))
 (some (Fin.ret (AV.str (subT tx_b18925 i (IntKind.i64.wrap (i + (1 : Int))))), St.mk [] [])) none)
 (branch
 (AV.bool
 (inSl tx_730b8f (IntKind.i64.wrap (i * (2 : Int)))
 (IntKind.i64.wrap (IntKind.i64.wrap (i * (2 : Int)) + (2 : Int)))))
 (some
 (Fin.ret
 (AV.str
 (subT tx_730b8f (IntKind.i64.wrap (i * (2 : Int)))
 (IntKind.i64.wrap (IntKind.i64.wrap (i * (2 : Int)) + (2 : Int))))),
 St.mk [] []))
 none))
 (branch (AV.bool (decide (i < (0 : Int))))
 (branch (AV.bool (okW (IntKind.u64.wrap ((0 : Int) - IntKind.u64.wrap i))))
 (if
 (0 : Int) ≤ IntKind.i64.wrap ((1 : Int) + ndO (IntKind.u64.wrap ((0 : Int) - IntKind.u64.wrap i))) ∧
 IntKind.i64.wrap ((1 : Int) + ndO (IntKind.u64.wrap ((0 : Int) - IntKind.u64.wrap i))) ≤ (24 : Int) then
 if
 (0 : Int) ≤ (1 : Int) ∧
 (1 : Int) ≤
 (↑(IntKind.i64.wrap ((1 : Int) + ndO (IntKind.u64.wrap ((0 : Int) - IntKind.u64.wrap i)))).toNat :
 Int) then
 branch
 (AV.bool
 (fbOk (zAr 24 (AV.int IntKind.u8 (0 : Int)))
 ((IntKind.i64.wrap ((1 : Int) + ndO (IntKind.u64.wrap ((0 : Int) - IntKind.u64.wrap i)))).toNat -
 1)
 (IntKind.u64.wrap ((0 : Int) - IntKind.u64.wrap i))))
 (branch (AV.bool (decide (i < (0 : Int))))
 (if
 1 = 1 ∧
 1 ≤
 (wrC (zAr 24 (AV.int IntKind.u8 (0 : Int)))
 (IntKind.u64.wrap ((0 : Int) - IntKind.u64.wrap i))
 ((IntKind.i64.wrap
 ((1 : Int) + ndO (IntKind.u64.wrap ((0 : Int) - IntKind.u64.wrap i)))).toNat -
 1)).length then
 if
 (0 : Int) ≤
 IntKind.i64.wrap ((1 : Int) + ndO (IntKind.u64.wrap ((0 : Int) - IntKind.u64.wrap i))) ∧
 IntKind.i64.wrap ((1 : Int) + ndO (IntKind.u64.wrap ((0 : Int) - IntKind.u64.wrap i))) ≤
 (24 : Int) then
 onSome
 (rowsA 1
 (AV.ms 0 1 0
 ((IntKind.i64.wrap
 ((1 : Int) + ndO (IntKind.u64.wrap ((0 : Int) - IntKind.u64.wrap i)))).toNat -
 0)
 24)
 (St.mk
 [Ob.cells
 (setAt
 (wrC (zAr 24 (AV.int IntKind.u8 (0 : Int)))
 (IntKind.u64.wrap ((0 : Int) - IntKind.u64.wrap i))
 ((IntKind.i64.wrap
 ((1 : Int) + ndO (IntKind.u64.wrap ((0 : Int) - IntKind.u64.wrap i)))).toNat -
 1))
 0 [AV.int IntKind.u8 (45 : Int)])]
 []))
 none fun (o : List (List AV)) =>
 onSome (numsOf o) none fun (o : List Int) =>
 some
 (Fin.ret (AV.str (textOf o)),
 St.mk
 [Ob.cells
 (setAt
 (wrC (zAr 24 (AV.int IntKind.u8 (0 : Int)))
 (IntKind.u64.wrap ((0 : Int) - IntKind.u64.wrap i))
 ((IntKind.i64.wrap
 ((1 : Int) +
 ndO (IntKind.u64.wrap ((0 : Int) - IntKind.u64.wrap i)))).toNat -
 1))
 0 [AV.int IntKind.u8 (45 : Int)])]
 [])
 else none
 else none)
 (if
 (0 : Int) ≤ IntKind.i64.wrap ((1 : Int) + ndO (IntKind.u64.wrap ((0 : Int) - IntKind.u64.wrap i))) ∧
 IntKind.i64.wrap ((1 : Int) + ndO (IntKind.u64.wrap ((0 : Int) - IntKind.u64.wrap i))) ≤
 (24 : Int) then
 if
 (0 : Int) ≤ (1 : Int) ∧
 (1 : Int) ≤
 (↑(IntKind.i64.wrap
 ((1 : Int) + ndO (IntKind.u64.wrap ((0 : Int) - IntKind.u64.wrap i)))).toNat :
 Int) then
 onSome
 (rowsA 1
 (AV.ms 0 1 1
 ((IntKind.i64.wrap
 ((1 : Int) + ndO (IntKind.u64.wrap ((0 : Int) - IntKind.u64.wrap i)))).toNat -
 1)
 23)
 (St.mk
 [Ob.cells
 (wrC (zAr 24 (AV.int IntKind.u8 (0 : Int)))
 (IntKind.u64.wrap ((0 : Int) - IntKind.u64.wrap i))
 ((IntKind.i64.wrap
 ((1 : Int) + ndO (IntKind.u64.wrap ((0 : Int) - IntKind.u64.wrap i)))).toNat -
 1))]
 []))
 none fun (o : List (List AV)) =>
 onSome (numsOf o) none fun (o : List Int) =>
 some
 (Fin.ret (AV.str (textOf o)),
 St.mk
 [Ob.cells
 (wrC (zAr 24 (AV.int IntKind.u8 (0 : Int)))
 (IntKind.u64.wrap ((0 : Int) - IntKind.u64.wrap i))
 ((IntKind.i64.wrap
 ((1 : Int) + ndO (IntKind.u64.wrap ((0 : Int) - IntKind.u64.wrap i)))).toNat -
 1))]
 [])
 else none
 else none))
 none
 else none
 else none)
 none)
 (branch (AV.bool (okW (IntKind.u64.wrap i)))
 (if
 (0 : Int) ≤ IntKind.i64.wrap ((1 : Int) + ndO (IntKind.u64.wrap i)) ∧
 IntKind.i64.wrap ((1 : Int) + ndO (IntKind.u64.wrap i)) ≤ (24 : Int) then
 if
 (0 : Int) ≤ (1 : Int) ∧
 (1 : Int) ≤ (↑(IntKind.i64.wrap ((1 : Int) + ndO (IntKind.u64.wrap i))).toNat : Int) then
 branch
 (AV.bool
 (fbOk (zAr 24 (AV.int IntKind.u8 (0 : Int)))
 ((IntKind.i64.wrap ((1 : Int) + ndO (IntKind.u64.wrap i))).toNat - 1) (IntKind.u64.wrap i)))
 (branch (AV.bool (decide (i < (0 : Int))))
 (if
 1 = 1 ∧
 1 ≤
 (wrC (zAr 24 (AV.int IntKind.u8 (0 : Int))) (IntKind.u64.wrap i)
 ((IntKind.i64.wrap ((1 : Int) + ndO (IntKind.u64.wrap i))).toNat - 1)).length then
 if
 (0 : Int) ≤ IntKind.i64.wrap ((1 : Int) + ndO (IntKind.u64.wrap i)) ∧
 IntKind.i64.wrap ((1 : Int) + ndO (IntKind.u64.wrap i)) ≤ (24 : Int) then
 onSome
 (rowsA 1
 (AV.ms 0 1 0
 ((IntKind.i64.wrap ((1 : Int) + ndO (IntKind.u64.wrap i))).toNat - 0) 24)
 (St.mk
 [Ob.cells
 (setAt
 (wrC (zAr 24 (AV.int IntKind.u8 (0 : Int))) (IntKind.u64.wrap i)
 ((IntKind.i64.wrap ((1 : Int) + ndO (IntKind.u64.wrap i))).toNat - 1))
 0 [AV.int IntKind.u8 (45 : Int)])]
 []))
 none fun (o : List (List AV)) =>
 onSome (numsOf o) none fun (o : List Int) =>
 some
 (Fin.ret (AV.str (textOf o)),
 St.mk
 [Ob.cells
 (setAt
 (wrC (zAr 24 (AV.int IntKind.u8 (0 : Int))) (IntKind.u64.wrap i)
 ((IntKind.i64.wrap ((1 : Int) + ndO (IntKind.u64.wrap i))).toNat - 1))
 0 [AV.int IntKind.u8 (45 : Int)])]
 [])
 else none
 else none)
 (if
 (0 : Int) ≤ IntKind.i64.wrap ((1 : Int) + ndO (IntKind.u64.wrap i)) ∧
 IntKind.i64.wrap ((1 : Int) + ndO (IntKind.u64.wrap i)) ≤ (24 : Int) then
 if
 (0 : Int) ≤ (1 : Int) ∧
 (1 : Int) ≤ (↑(IntKind.i64.wrap ((1 : Int) + ndO (IntKind.u64.wrap i))).toNat : Int) then
 onSome
 (rowsA 1
 (AV.ms 0 1 1
 ((IntKind.i64.wrap ((1 : Int) + ndO (IntKind.u64.wrap i))).toNat - 1) 23)
 (St.mk
 [Ob.cells
 (wrC (zAr 24 (AV.int IntKind.u8 (0 : Int))) (IntKind.u64.wrap i)
 ((IntKind.i64.wrap ((1 : Int) + ndO (IntKind.u64.wrap i))).toNat - 1))]
 []))
 none fun (o : List (List AV)) =>
 onSome (numsOf o) none fun (o : List Int) =>
 some
 (Fin.ret (AV.str (textOf o)),
 St.mk
 [Ob.cells
 (wrC (zAr 24 (AV.int IntKind.u8 (0 : Int))) (IntKind.u64.wrap i)
 ((IntKind.i64.wrap ((1 : Int) + ndO (IntKind.u64.wrap i))).toNat - 1))]
 [])
 else none
 else none))
 none
 else none
 else none)
 none)))
 (branch (AV.bool (decide (i < (0 : Int))))
 (branch (AV.bool (okW (IntKind.u64.wrap ((0 : Int) - IntKind.u64.wrap i))))
 (if
 (0 : Int) ≤ IntKind.i64.wrap ((1 : Int) + ndO (IntKind.u64.wrap ((0 : Int) - IntKind.u64.wrap i))) ∧
 IntKind.i64.wrap ((1 : Int) + ndO (IntKind.u64.wrap ((0 : Int) - IntKind.u64.wrap i))) ≤ (24 : Int) then
 if
 (0 : Int) ≤ (1 : Int) ∧
 (1 : Int) ≤
 (↑(IntKind.i64.wrap ((1 : Int) + ndO (IntKind.u64.wrap ((0 : Int) - IntKind.u64.wrap i)))).toNat :
 Int) then
 branch
 (AV.bool
 (fbOk (zAr 24 (AV.int IntKind.u8 (0 : Int)))
 ((IntKind.i64.wrap ((1 : Int) + ndO (IntKind.u64.wrap ((0 : Int) - IntKind.u64.wrap i)))).toNat -
 1)
 (IntKind.u64.wrap ((0 : Int) - IntKind.u64.wrap i))))
 (branch (AV.bool (decide (i < (0 : Int))))
 (if
 1 = 1 ∧
 1 ≤
 (wrC (zAr 24 (AV.int IntKind.u8 (0 : Int)))
 (IntKind.u64.wrap ((0 : Int) - IntKind.u64.wrap i))
 ((IntKind.i64.wrap
 ((1 : Int) + ndO (IntKind.u64.wrap ((0 : Int) - IntKind.u64.wrap i)))).toNat -
 1)).length then
 if
 (0 : Int) ≤ IntKind.i64.wrap ((1 : Int) + ndO (IntKind.u64.wrap ((0 : Int) - IntKind.u64.wrap i))) ∧
 IntKind.i64.wrap ((1 : Int) + ndO (IntKind.u64.wrap ((0 : Int) - IntKind.u64.wrap i))) ≤
 (24 : Int) then
 onSome
 (rowsA 1
 (AV.ms 0 1 0
 ((IntKind.i64.wrap
 ((1 : Int) + ndO (IntKind.u64.wrap ((0 : Int) - IntKind.u64.wrap i)))).toNat -
 0)
 24)
 (St.mk
 [Ob.cells
 (setAt
 (wrC (zAr 24 (AV.int IntKind.u8 (0 : Int)))
 (IntKind.u64.wrap ((0 : Int) - IntKind.u64.wrap i))
 ((IntKind.i64.wrap
 ((1 : Int) + ndO (IntKind.u64.wrap ((0 : Int) - IntKind.u64.wrap i)))).toNat -
 1))
 0 [AV.int IntKind.u8 (45 : Int)])]
 []))
 none fun (o : List (List AV)) =>
 onSome (numsOf o) none fun (o : List Int) =>
 some
 (Fin.ret (AV.str (textOf o)),
 St.mk
 [Ob.cells
 (setAt
 (wrC (zAr 24 (AV.int IntKind.u8 (0 : Int)))
 (IntKind.u64.wrap ((0 : Int) - IntKind.u64.wrap i))
 ((IntKind.i64.wrap
 ((1 : Int) + ndO (IntKind.u64.wrap ((0 : Int) - IntKind.u64.wrap i)))).toNat -
 1))
 0 [AV.int IntKind.u8 (45 : Int)])]
 [])
 else none
 else none)
 (if
 (0 : Int) ≤ IntKind.i64.wrap ((1 : Int) + ndO (IntKind.u64.wrap ((0 : Int) - IntKind.u64.wrap i))) ∧
 IntKind.i64.wrap ((1 : Int) + ndO (IntKind.u64.wrap ((0 : Int) - IntKind.u64.wrap i))) ≤
 (24 : Int) then
 if
 (0 : Int) ≤ (1 : Int) ∧
 (1 : Int) ≤
 (↑(IntKind.i64.wrap
 ((1 : Int) + ndO (IntKind.u64.wrap ((0 : Int) - IntKind.u64.wrap i)))).toNat :
 Int) then
 onSome
 (rowsA 1
 (AV.ms 0 1 1
 ((IntKind.i64.wrap
 ((1 : Int) + ndO (IntKind.u64.wrap ((0 : Int) - IntKind.u64.wrap i)))).toNat -
 1)
 23)
 (St.mk
 [Ob.cells
 (wrC (zAr 24 (AV.int IntKind.u8 (0 : Int)))
 (IntKind.u64.wrap ((0 : Int) - IntKind.u64.wrap i))
 ((IntKind.i64.wrap
 ((1 : Int) + ndO (IntKind.u64.wrap ((0 : Int) - IntKind.u64.wrap i)))).toNat -
 1))]
 []))
 none fun (o : List (List AV)) =>
 onSome (numsOf o) none fun (o : List Int) =>
 some
 (Fin.ret (AV.str (textOf o)),
 St.mk
 [Ob.cells
 (wrC (zAr 24 (AV.int IntKind.u8 (0 : Int)))
 (IntKind.u64.wrap ((0 : Int) - IntKind.u64.wrap i))
 ((IntKind.i64.wrap
 ((1 : Int) + ndO (IntKind.u64.wrap ((0 : Int) - IntKind.u64.wrap i)))).toNat -
 1))]
 [])
 else none
 else none))
 none
 else none
 else none)
 none)
 (branch (AV.bool (okW (IntKind.u64.wrap i)))
 (if
 (0 : Int) ≤ IntKind.i64.wrap ((1 : Int) + ndO (IntKind.u64.wrap i)) ∧
 IntKind.i64.wrap ((1 : Int) + ndO (IntKind.u64.wrap i)) ≤ (24 : Int) then
 if
 (0 : Int) ≤ (1 : Int) ∧
 (1 : Int) ≤ (↑(IntKind.i64.wrap ((1 : Int) + ndO (IntKind.u64.wrap i))).toNat : Int) then
 branch
 (AV.bool
 (fbOk (zAr 24 (AV.int IntKind.u8 (0 : Int)))
 ((IntKind.i64.wrap ((1 : Int) + ndO (IntKind.u64.wrap i))).toNat - 1) (IntKind.u64.wrap i)))
 (branch (AV.bool (decide (i < (0 : Int))))
 (if
 1 = 1 ∧
 1 ≤
 (wrC (zAr 24 (AV.int IntKind.u8 (0 : Int))) (IntKind.u64.wrap i)
 ((IntKind.i64.wrap ((1 : Int) + ndO (IntKind.u64.wrap i))).toNat - 1)).length then
 if
 (0 : Int) ≤ IntKind.i64.wrap ((1 : Int) + ndO (IntKind.u64.wrap i)) ∧
 IntKind.i64.wrap ((1 : Int) + ndO (IntKind.u64.wrap i)) ≤ (24 : Int) then
 onSome
 (rowsA 1
 (AV.ms 0 1 0
 ((IntKind.i64.wrap ((1 : Int) + ndO (IntKind.u64.wrap i))).toNat - 0) 24)
 (St.mk
 [Ob.cells
 (setAt
 (wrC (zAr 24 (AV.int IntKind.u8 (0 : Int))) (IntKind.u64.wrap i)
 ((IntKind.i64.wrap ((1 : Int) + ndO (IntKind.u64.wrap i))).toNat - 1))
 0 [AV.int IntKind.u8 (45 : Int)])]
 []))
 none fun (o : List (List AV)) =>
 onSome (numsOf o) none fun (o : List Int) =>
 some
 (Fin.ret (AV.str (textOf o)),
 St.mk
 [Ob.cells
 (setAt
 (wrC (zAr 24 (AV.int IntKind.u8 (0 : Int))) (IntKind.u64.wrap i)
 ((IntKind.i64.wrap ((1 : Int) + ndO (IntKind.u64.wrap i))).toNat - 1))
 0 [AV.int IntKind.u8 (45 : Int)])]
 [])
 else none
 else none)
 (if
 (0 : Int) ≤ IntKind.i64.wrap ((1 : Int) + ndO (IntKind.u64.wrap i)) ∧
 IntKind.i64.wrap ((1 : Int) + ndO (IntKind.u64.wrap i)) ≤ (24 : Int) then
 if
 (0 : Int) ≤ (1 : Int) ∧
 (1 : Int) ≤ (↑(IntKind.i64.wrap ((1 : Int) + ndO (IntKind.u64.wrap i))).toNat : Int) then
 onSome
 (rowsA 1
 (AV.ms 0 1 1
 ((IntKind.i64.wrap ((1 : Int) + ndO (IntKind.u64.wrap i))).toNat - 1) 23)
 (St.mk
 [Ob.cells
 (wrC (zAr 24 (AV.int IntKind.u8 (0 : Int))) (IntKind.u64.wrap i)
 ((IntKind.i64.wrap ((1 : Int) + ndO (IntKind.u64.wrap i))).toNat - 1))]
 []))
 none fun (o : List (List AV)) =>
 onSome (numsOf o) none fun (o : List Int) =>
 some
 (Fin.ret (AV.str (textOf o)),
 St.mk
 [Ob.cells
 (wrC (zAr 24 (AV.int IntKind.u8 (0 : Int))) (IntKind.u64.wrap i)
 ((IntKind.i64.wrap ((1 : Int) + ndO (IntKind.u64.wrap i))).toNat - 1))]
 [])
 else none
 else none))
 none
 else none
 else none)
 none)) := by kernel_rfl

end Go.Proofs.YtcfedmheblbdnaaDoor.V

/- Values: a number as a text (FormatInt to the base ten). -/
set_option linter.unusedVariables false
namespace Go.Proofs.YtcfedmheblbdnaaDoor.V
open Go Go.V Go.RowKit

theorem wr_at (l : List Nat) (U D : Nat) (hl : D + 1 ≤ l.length) : ∀ k, k ≤ D → ∀ p, p < l.length → (wr l U D k)[p]? = some (if 1 + (D - k) ≤ p ∧ p < 1 + D then 48 + U / 10 ^ (D - p) % 10 else l.getD p 0)
  | 0, _, p, hp => by
    rw [wr, if_neg (by omega), List.getElem?_eq_getElem hp, List.getD_eq_getElem?_getD, List.getElem?_eq_getElem hp]; rfl
  | k + 1, hk, p, hp => by
    rw [wr, List.getElem?_set, wr_len, wr_at l U D hl k (by omega) p hp]
    by_cases h : 1 + (D - (k + 1)) = p
    · rw [if_pos h, if_pos (by omega), if_pos (by omega), show D - p = k by omega]
    · rw [if_neg h]
      by_cases h2 : 1 + (D - k) ≤ p ∧ p < 1 + D
      · rw [if_pos h2, if_pos (by omega)]
      · rw [if_neg h2, if_neg (by omega)]
theorem wr_digs (l : List Nat) (U n : Nat) (hl : n + 1 ≤ l.length) : ((wr l U n n).drop 1).take n = digs U n := by
  apply List.ext_getElem?
  intro j
  rw [List.getElem?_take, digs, List.getElem?_map]
  by_cases hj : j < n
  · rw [if_pos hj, List.getElem?_drop, wr_at l U n hl n (Nat.le_refl _) (1 + j) (by omega), if_pos (by omega), List.getElem?_range hj]
    simp only [Option.map_some]
    rw [show n - (1 + j) = n - 1 - j by omega]
  · rw [if_neg hj, List.getElem?_eq_none (by simp; omega)]; rfl
/-- A number's digits. -/
def dec (U : Nat) : List Nat := if U = 0 then [48] else digs U (ndN U)
def numL (i : Int) : List Nat := if i < 0 then 45 :: dec (-i).toNat else dec i.toNat
theorem digs_lt (U n : Nat) : ∀ b ∈ digs U n, b < 256 := by
  intro b hb
  obtain ⟨j, _, rfl⟩ := List.mem_map.mp hb
  omega
theorem dec_lt (U : Nat) : ∀ b ∈ dec U, b < 256 := by
  unfold dec
  split
  · intro b hb; simp at hb; omega
  · exact digs_lt _ _
theorem numL_lt (i : Int) : ∀ b ∈ numL i, b < 256 := by
  unfold numL
  split
  · intro b hb
    rcases List.mem_cons.mp hb with rfl | hb
    · omega
    · exact dec_lt _ b hb
  · exact dec_lt _
theorem dec_of {U n : Nat} (h1 : 1 ≤ n) (h2 : 10 ^ (n - 1) ≤ U) (h3 : U < 10 ^ n) (h4 : U < 18446744073709551616) : dec U = digs U n := by
  have h0 : U ≠ 0 := by have := Nat.pow_pos (n := n - 1) (show 0 < 10 by omega); omega
  obtain ⟨k1, k2, k3, k4⟩ := ndN_spec h0 h4
  unfold dec
  rw [if_neg h0]
  rcases Nat.lt_trichotomy n (ndN U) with h | h | h
  · have := Nat.pow_le_pow_right (n := 10) (by omega) (show n ≤ ndN U - 1 by omega); omega
  · rw [h]
  · have := Nat.pow_le_pow_right (n := 10) (by omega) (show ndN U ≤ n - 1 by omega); omega
noncomputable def showI (i : Int) : ByteArray := txt (numL i)
theorem strL_txt {l : List Nat} (h : ∀ b ∈ l, b < 256) : strL (txt l) = l := own_txt h
theorem dig_sub {i : Nat} (h : i < 10) : ((strL tx_b18925).take (i + 1)).drop i = [48 + i] := by
  have h1 : ∀ j : Fin 10, ((strL tx_b18925).take (j.val + 1)).drop j.val = [48 + j.val] := by rw [tx_b18925_eq]; decide +kernel
  exact h1 ⟨i, h⟩
theorem dig_len : (strL tx_b18925).length = 36 := by rw [tx_b18925_eq]; decide +kernel
theorem text_rows {l : List Nat} (h : ∀ b ∈ l, b < 256) : numsOf (bR l) = some (l.map fun (b : Nat) => (b : Int)) := by
  rw [numsOf_nR (okR_bR h), nR_bR]
theorem zAr_bC : zAr 24 (AV.int IntKind.u8 (0 : Int)) = bC (List.replicate 24 0) := by rw [zAr, opq_eq]; rfl
theorem fi_eq (i : Int) (h1 : -9223372036854775808 ≤ i) (h2 : i ≤ 9223372036854775807) : ∃ st', f72.run 0 [.int .i64 i, .int .i64 10] ⟨[], []⟩ = some (.ret (.str (showI i)), st') := by
  rw [fi_run]
  by_cases hneg : i < 0
  · rw [branch_not (decide_eq_false (by omega)), branch_of (decide_eq_true hneg)]
    obtain ⟨U, hU⟩ : ∃ U : Nat, -i = (U : Nat) := Int.eq_ofNat_of_zero_le (by omega)
    have hU0 : U ≠ 0 := by omega
    have hUm : U ≤ 9223372036854775808 := by omega
    have e1 : IntKind.u64.wrap (0 - IntKind.u64.wrap i) = (U : Nat) := by
      unfold IntKind.wrap
      simp only [IntKind.signed, IntKind.bits]
      simp
      omega
    obtain ⟨k1, k2, k3, k4⟩ := ndN_spec hU0 (by omega)
    have e2 : ndO ((U : Nat) : Int) = (ndN U : Nat) := by rw [ndO, opq_eq, Int.toNat_natCast]
    have e3 : IntKind.i64.wrap (1 + ((ndN U : Nat) : Int)) = ((ndN U + 1 : Nat) : Int) := by rw [wrapS (by omega) (by omega)]; omega
    have e4 : unB (bC (List.replicate 24 0)) = List.replicate 24 0 := unB_bC _
    have e5 : wrC (bC (List.replicate 24 0)) (U : Nat) (ndN U) = bC (wr (List.replicate 24 0) U (ndN U) (ndN U)) := by rw [wrC, opq_eq, e4, Int.toNat_natCast]
    have hW : (wr (List.replicate 24 0) U (ndN U) (ndN U)).length = 24 := by rw [wr_len]; rfl
    have hd := wr_digs (List.replicate 24 0) U (ndN U) (by simp; omega)
    rw [e1, e2, e3, zAr_bC, Int.toNat_natCast, Nat.add_sub_cancel, e5]
    generalize wr (List.replicate 24 0) U (ndN U) (ndN U) = W at *
    rw [branch_of (show okW (U : Int) = true from cdec_iff.mpr ⟨by omega, by omega⟩), if_pos ⟨by omega, by omega⟩, if_pos ⟨by omega, by omega⟩,
      branch_of (show fbOk (bC (List.replicate 24 0)) (ndN U) (U : Int) = true from cdec_iff.mpr ⟨by rw [e4], by simp [bC], k2, by omega, by exact_mod_cast k4, by omega⟩), branch_of (decide_eq_true hneg), if_pos ⟨rfl, by rw [bC_length, hW]; omega⟩, if_pos ⟨by omega, by omega⟩]
    have e6 : setAt (bC W) 0 [AV.int IntKind.u8 (45 : Int)] = bC (W.set 0 45) := by
      have := setC_byte (l := W) (o := 0) (b := 45) (by omega)
      rw [setC, opq_eq] at this
      exact this
    have e7 : rowsA 1 (.ms 0 1 0 (ndN U + 1 - 0) 24) ⟨[.cells (bC (W.set 0 45))], []⟩ = some (bR ((W.set 0 45).take (ndN U + 1))) := rowsOf_bC (ndN U + 1) (W.set 0 45) (by simp; omega)
    have e8 : (W.set 0 45).take (ndN U + 1) = numL i := by
      match W, hW, hd with
      | x :: W, _, hd =>
        show 45 :: W.take (ndN U) = _
        rw [numL, if_pos hneg, hU, Int.toNat_natCast, dec, if_neg hU0, ← hd]; rfl
    rw [e6, e7]
    simp only [onSome]
    rw [e8, text_rows (numL_lt i)]
    exact ⟨_, rfl⟩
  · obtain ⟨U, rfl⟩ := Int.eq_ofNat_of_zero_le (show 0 ≤ i by omega)
    rw [branch_of (decide_eq_true (by omega))]
    by_cases h100 : U < 100
    · rw [branch_of (decide_eq_true (by omega))]
      by_cases h10 : U < 10
      · have e1 : IntKind.i64.wrap ((U : Int) + 1) = ((U + 1 : Nat) : Int) := by rw [wrapS (by omega) (by omega)]; omega
        have e2 : subT tx_b18925 (U : Int) ((U + 1 : Nat) : Int) = showI (U : Int) := by
          apply strL_inj
          rw [subT_list, showI, strL_txt (numL_lt _), Int.toNat_natCast, Int.toNat_natCast, dig_sub h10, numL, if_neg (by omega), Int.toNat_natCast]
          by_cases h0 : U = 0
          · subst h0; rfl
          · rw [dec_of (n := 1) (by omega) (by simp; omega) (by omega) (by omega), digs]
            simp [List.range_succ]; omega
        rw [branch_of (decide_eq_true (by omega)), e1, branch_of (inSl_iff.mpr ⟨by omega, by omega, by rw [dig_len]; omega⟩), e2]
        exact ⟨_, rfl⟩
      · have e1 : IntKind.i64.wrap ((U : Int) * 2) = ((U * 2 : Nat) : Int) := by rw [wrapS (by omega) (by omega)]; omega
        have e3 : IntKind.i64.wrap (((U * 2 : Nat) : Int) + 2) = ((U * 2 + 2 : Nat) : Int) := by rw [wrapS (by omega) (by omega)]; omega
        have e2 : subT tx_730b8f ((U * 2 : Nat) : Int) ((U * 2 + 2 : Nat) : Int) = showI (U : Int) := by
          apply strL_inj
          rw [subT_list, showI, strL_txt (numL_lt _), Int.toNat_natCast, Int.toNat_natCast, sm_sub h100, numL, if_neg (by omega), Int.toNat_natCast, dec_of (n := 2) (by omega) (by simp; omega) (by omega) (by omega)]
        have hs := sm_len
        rw [branch_not (decide_eq_false (by omega)), e1, e3, branch_of (inSl_iff.mpr ⟨by omega, by omega, by omega⟩), e2]
        exact ⟨_, rfl⟩
    · rw [branch_not (decide_eq_false (by omega)), branch_not (decide_eq_false (by omega))]
      have hU0 : U ≠ 0 := by omega
      have e1 : IntKind.u64.wrap (U : Int) = (U : Nat) := w64 (by omega)
      obtain ⟨k1, k2, k3, k4⟩ := ndN_spec hU0 (by omega)
      have e2 : ndO ((U : Nat) : Int) = (ndN U : Nat) := by rw [ndO, opq_eq, Int.toNat_natCast]
      have e3 : IntKind.i64.wrap (1 + ((ndN U : Nat) : Int)) = ((ndN U + 1 : Nat) : Int) := by rw [wrapS (by omega) (by omega)]; omega
      have e4 : unB (bC (List.replicate 24 0)) = List.replicate 24 0 := unB_bC _
      have e5 : wrC (bC (List.replicate 24 0)) (U : Nat) (ndN U) = bC (wr (List.replicate 24 0) U (ndN U) (ndN U)) := by rw [wrC, opq_eq, e4, Int.toNat_natCast]
      have hW : (wr (List.replicate 24 0) U (ndN U) (ndN U)).length = 24 := by rw [wr_len]; rfl
      have hd := wr_digs (List.replicate 24 0) U (ndN U) (by simp; omega)
      rw [e1, e2, e3, zAr_bC, Int.toNat_natCast, Nat.add_sub_cancel, e5]
      generalize wr (List.replicate 24 0) U (ndN U) (ndN U) = W at *
      rw [branch_of (show okW (U : Int) = true from cdec_iff.mpr ⟨by omega, by omega⟩), if_pos ⟨by omega, by omega⟩, if_pos ⟨by omega, by omega⟩,
        branch_of (show fbOk (bC (List.replicate 24 0)) (ndN U) (U : Int) = true from cdec_iff.mpr ⟨by rw [e4], by simp [bC], k2, by omega, by exact_mod_cast k4, by omega⟩), branch_not (decide_eq_false hneg), if_pos ⟨by omega, by omega⟩, if_pos ⟨by omega, by omega⟩]
      have e7 : rowsA 1 (.ms 0 1 1 (ndN U) 23) ⟨[.cells (bC W)], []⟩ = some (bR ((W.drop 1).take (ndN U))) := by
        show rowsOf 1 (ndN U) ((bC W).drop 1) = _
        rw [bC_drop]; exact rowsOf_bC _ _ (by simp; omega)
      have e8 : (W.drop 1).take (ndN U) = numL (U : Int) := by rw [hd, numL, if_neg (by omega), Int.toNat_natCast, dec, if_neg hU0]
      rw [e7]
      simp only [onSome]
      rw [e8, text_rows (numL_lt _)]
      exact ⟨_, rfl⟩
end Go.Proofs.YtcfedmheblbdnaaDoor.V

/- The functions' pieces, as told by gen.py. -/
set_option linter.unusedVariables false
set_option maxRecDepth 20000
namespace Go.Proofs.YtcfedmheblbdnaaDoor.V
open Go Go.V Go.RowKit


/-! ### 20: interlock/interlockref04.Right (24); results 2; slots: 0 v, 1 v -/
/-! ### 39: interlock/interlockref04.cmp (3, 3); results 4; slots: 0 a, 1 b, 2 a, 3 b -/
end Go.Proofs.YtcfedmheblbdnaaDoor.V

/- What the functions' runs come to; the right sides were printed by a tool, Lean checks them. -/
set_option linter.unusedVariables false
set_option maxRecDepth 100000
namespace Go.Proofs.YtcfedmheblbdnaaDoor.V
open Go Go.V Go.RowKit

end Go.Proofs.YtcfedmheblbdnaaDoor.V

/- Values: the reference's Right and comparison of numbers, as callees. -/
set_option linter.unusedVariables false
namespace Go.Proofs.YtcfedmheblbdnaaDoor.V
open Go Go.V Go.RowKit

end Go.Proofs.YtcfedmheblbdnaaDoor.V

/- The functions' pieces, as told by gen.py. -/
set_option linter.unusedVariables false
set_option maxRecDepth 20000
namespace Go.Proofs.YtcfedmheblbdnaaDoor.V
open Go Go.V Go.RowKit


/-! ### 40: interlock/interlockref04.Texts (9, 9); results 4; slots: 0 a, 1 b, 2 a, 3 b, 5 i -/
/-! ### 23: interlock/interlockref04.Fits (24, 32); results 4; slots: 0 v, 1 c, 2 v, 3 c -/
end Go.Proofs.YtcfedmheblbdnaaDoor.V

/- What the functions' runs come to; the right sides were printed by a tool, Lean checks them. -/
set_option linter.unusedVariables false
set_option maxRecDepth 100000
namespace Go.Proofs.YtcfedmheblbdnaaDoor.V
open Go Go.V Go.RowKit

end Go.Proofs.YtcfedmheblbdnaaDoor.V

/- Values: the reference's comparison of texts, and both sides' Fits, as callees. -/
set_option linter.unusedVariables false
namespace Go.Proofs.YtcfedmheblbdnaaDoor.V
open Go Go.V Go.RowKit

/-- A column. -/
structure Co where
  nm : ByteArray
  k : Int
  nn : Bool
def Co.cells (c : Co) : List AV := [.str c.nm, .int .i64 c.k, .bool c.nn]
def Co.av (c : Co) : AV := .agg c.cells
end Go.Proofs.YtcfedmheblbdnaaDoor.V

/- The functions' pieces, as told by gen.py. -/
set_option linter.unusedVariables false
set_option maxRecDepth 20000
namespace Go.Proofs.YtcfedmheblbdnaaDoor.V
open Go Go.V Go.RowKit


/-! ### 22: interlock/interlockref04.Order (24, 24); results 4; slots: 0 a, 1 b, 2 a, 3 b -/
end Go.Proofs.YtcfedmheblbdnaaDoor.V

/- What the functions' runs come to; the right sides were printed by a tool, Lean checks them. -/
set_option linter.unusedVariables false
set_option maxRecDepth 100000
namespace Go.Proofs.YtcfedmheblbdnaaDoor.V
open Go Go.V Go.RowKit

end Go.Proofs.YtcfedmheblbdnaaDoor.V

/- Values: the reference's Order, as a callee. -/
set_option linter.unusedVariables false
namespace Go.Proofs.YtcfedmheblbdnaaDoor.V
open Go Go.V Go.RowKit

end Go.Proofs.YtcfedmheblbdnaaDoor.V

/- Values: FormatInt, as a callee. -/
set_option linter.unusedVariables false
namespace Go.Proofs.YtcfedmheblbdnaaDoor.V
open Go Go.V Go.RowKit

def dec2t : List AV → Option Int
  | [x, y] => match x with
    | .int k i => match k with
      | .i64 => match y with
        | .int k' n => match k' with
          | .i64 => match decide (n = 10) with
            | true => some i
            | false => none
          | _ => none
        | _ => none
      | _ => none
    | _ => none
  | _ => none
theorem dec2t_enc : ∀ l a, dec2t l = some a → l = [.int .i64 a, .int .i64 10] := by
  intro l a h
  unfold dec2t at h
  split at h
  · split at h
    · split at h
      · split at h
        · split at h
          · split at h
            · rename_i hn; cases h; rw [of_decide_eq_true hn]
            · cases h
          · cases h
        · cases h
      · cases h
    · cases h
  · cases h
noncomputable def okI (i : Int) : Bool := cdec (-9223372036854775808 ≤ i ∧ i ≤ 9223372036854775807)
noncomputable def p72 : POrc Tryd.prog := f72.flatIf dec2t (fun i => [.int .i64 i, .int .i64 10]) dec2t_enc okI (fun i => .str (showI i)) (fun _ => ⟨trivial, trivial, trivial⟩) (fun _ => trivial) fun i h => by
  obtain ⟨h1, h2⟩ := cdec_iff.mp h
  obtain ⟨st', h⟩ := fi_eq i h1 h2
  exact ⟨0, st', h⟩
end Go.Proofs.YtcfedmheblbdnaaDoor.V

/- The functions' pieces, as told by gen.py. -/
set_option linter.unusedVariables false
set_option maxRecDepth 20000
namespace Go.Proofs.YtcfedmheblbdnaaDoor.V
open Go Go.V Go.RowKit


/-! ### 54: internal/strconv.Itoa (3); results 2; slots: 0 i, 1 i -/
noncomputable def f54_b : Sim Tryd.prog :=
 (.seq (.live [0] (.region 0 [
 ⟨(opAssign (some 2) (.const (Value.string { data := #[] })) 9 "itoa.go:52" #[]).op, none⟩
 ] (by kernel_rfl)))
 (.seq (.live [2] (.region 1 [
 ⟨(opMove (some 3) (.tmp 0) 3 "itoa.go:53" #[]).op, none⟩,
 ⟨(opCallP p72 (some 4) [(.tmp 3), (.const (Value.int IntKind.i64 10))] #[2, 3] 9 "itoa.go:53" #[eD 0]).op, none⟩,
 ⟨(opAssign (some 2) (.tmp 4) 9 "itoa.go:53" #[eD 1, eC 1, eP 0, eP 1]).op, none⟩
 ] (by kernel_rfl)))
 (.live [2] .ret)))

noncomputable def f54 : Fun Tryd.prog where
 id := 54
 fn := Tryd.f54
 hf := Tryd.func54
 hname := by kernel_rfl
 body := f54_b
 hbody := by kernel_rfl
 res := [rTmp 2]
 hres := by kernel_rfl
 n := 5
 hn := by kernel_rfl

/-! ### 55: internal/strconv.FormatBool (4); results 2; slots: 0 b, 1 b -/
noncomputable def f55_b : Sim Tryd.prog :=
 (.seq (.live [0] (.region 0 [
 ⟨(opAssign (some 2) (.const (Value.string { data := #[] })) 9 "atob.go:21" #[]).op, none⟩
 ] (by kernel_rfl)))
 (.seq (.seq (.live [3] (.region 1 [
 ⟨(opMove (some 3) (.tmp 0) 4 "atob.go:22" #[]).op, none⟩
 ] (by kernel_rfl)))
 (.cond (.tmp 3)
 (.seq (.live [2] (.region 2 [
 ⟨(opAssign (some 2) (.const (Value.string { data := #[116, 114, 117, 101] })) 9 "atob.go:23" #[]).op, none⟩
 ] (by kernel_rfl)))
 (.live [2] .ret))
 .skip))
 (.seq (.live [2] (.region 3 [
 ⟨(opAssign (some 2) (.const (Value.string { data := #[102, 97, 108, 115, 101] })) 9 "atob.go:25" #[]).op, none⟩
 ] (by kernel_rfl)))
 (.live [2] .ret))))

noncomputable def f55 : Fun Tryd.prog where
 id := 55
 fn := Tryd.f55
 hf := Tryd.func55
 hname := by kernel_rfl
 body := f55_b
 hbody := by kernel_rfl
 res := [rTmp 2]
 hres := by kernel_rfl
 n := 4
 hn := by kernel_rfl

/-! ### 32: strconv.Itoa (3); results 2; slots: 0 i, 1 i -/
noncomputable def f32_b : Sim Tryd.prog :=
 (.seq (.live [0] (.region 0 [
 ⟨(opAssign (some 2) (.const (Value.string { data := #[] })) 9 "number.go:214" #[]).op, none⟩
 ] (by kernel_rfl)))
 (.seq (.live [2] (.region 1 [
 ⟨(opMove (some 3) (.tmp 0) 3 "number.go:215" #[]).op, none⟩,
 ⟨opCall (f54.orc 0) (some 4) [(.tmp 3)] #[3] 9 "number.go:215" #[eD 0], none⟩,
 ⟨(opAssign (some 2) (.tmp 4) 9 "number.go:215" #[eD 1, eC 1, eP 0, eP 1]).op, none⟩
 ] (by kernel_rfl)))
 (.live [2] .ret)))

noncomputable def f32 : Fun Tryd.prog where
 id := 32
 fn := Tryd.f32
 hf := Tryd.func32
 hname := by kernel_rfl
 body := f32_b
 hbody := by kernel_rfl
 res := [rTmp 2]
 hres := by kernel_rfl
 n := 5
 hn := by kernel_rfl

/-! ### 33: strconv.FormatBool (4); results 2; slots: 0 b, 1 b -/
noncomputable def f33_b : Sim Tryd.prog :=
 (.seq (.live [0] (.region 0 [
 ⟨(opAssign (some 2) (.const (Value.string { data := #[] })) 9 "number.go:28" #[]).op, none⟩
 ] (by kernel_rfl)))
 (.seq (.live [2] (.region 1 [
 ⟨(opMove (some 3) (.tmp 0) 4 "number.go:29" #[]).op, none⟩,
 ⟨opCall (f55.orc 0) (some 4) [(.tmp 3)] #[4] 9 "number.go:29" #[eD 0], none⟩,
 ⟨(opAssign (some 2) (.tmp 4) 9 "number.go:29" #[eD 1, eC 1, eP 0, eP 1]).op, none⟩
 ] (by kernel_rfl)))
 (.live [2] .ret)))

noncomputable def f33 : Fun Tryd.prog where
 id := 33
 fn := Tryd.f33
 hf := Tryd.func33
 hname := by kernel_rfl
 body := f33_b
 hbody := by kernel_rfl
 res := [rTmp 2]
 hres := by kernel_rfl
 n := 5
 hn := by kernel_rfl

end Go.Proofs.YtcfedmheblbdnaaDoor.V

/- The functions' pieces, as told by gen.py. -/
set_option linter.unusedVariables false
set_option maxRecDepth 20000
namespace Go.Proofs.YtcfedmheblbdnaaDoor.V
open Go Go.V Go.RowKit


/-! ### 12: interlock/value.Show (24); results 2; slots: 0 v, 1 v -/
noncomputable def g12_b : Sim Tryd.prog :=
 (.seq (.live [1] (.region 0 [
 ⟨(opBoxF (some 1) 24 (.tmp 0) 0 "value.go:138" #[]).op, none⟩,
 ⟨(opAssign (some 2) (.const (Value.string { data := #[] })) 9 "value.go:138" #[]).op, none⟩
 ] (by kernel_rfl)))
 (.seq (.block 0 (.seq (.live [1, 3] (.region 1 [
 ⟨(opLoadT (.agg [(.int .i64), (.int .i64), .str]) (some 4) 24 (.tmp 1) d24 ud24 3 sz24 (by kernel_rfl) 24 "value.go:140" #[]).op, none⟩,
 ⟨(opCallP p13 (some 5) [(.tmp 4)] #[24] 4 "value.go:140" #[eD 0]).op, none⟩,
 ⟨(opNot (some 6) 4 (.tmp 5) 4 "value.go:140" #[eD 1]).op, none⟩,
 ⟨(opAssign (some 3) (.tmp 6) 4 "value.go:140" #[eD 2, eC 1]).op, none⟩
 ] (by kernel_rfl)))
 (.cond (.tmp 3)
 (.seq (.live [2] (.region 2 [
 ⟨(opAssign (some 2) (.const (Value.string { data := #[63] })) 9 "value.go:141" #[]).op, none⟩
 ] (by kernel_rfl)))
 (.live [2] .ret))
 (.seq (.live [1, 7] (.region 3 [
 ⟨(opFieldAddr (some 8) 24 (.tmp 1) 0 0 1 false fl24_0 (by decide) 0 "value.go:142" #[]).op, none⟩,
 ⟨(opLoadT (.one (.int .i64)) (some 9) 3 (.tmp 8) (.int .i64) Tryd.underlying3 1 sz3 (by kernel_rfl) 3 "value.go:142" #[eD 0]).op, none⟩,
 ⟨(opBin (some 10) .eql 3 (.tmp 9) (.const (Value.int IntKind.i64 1)) 3 4 "value.go:142" #[eD 1]).op, none⟩,
 ⟨(opAssign (some 7) (.tmp 10) 4 "value.go:142" #[eD 2]).op, none⟩
 ] (by kernel_rfl)))
 (.cond (.tmp 7)
 (.seq (.live [2] (.region 4 [
 ⟨(opFieldAddr (some 11) 24 (.tmp 1) 1 1 1 false fl24_1 (by decide) 0 "value.go:143" #[]).op, none⟩,
 ⟨(opLoadT (.one (.int .i64)) (some 12) 3 (.tmp 11) (.int .i64) Tryd.underlying3 1 sz3 (by kernel_rfl) 3 "value.go:143" #[eD 0]).op, none⟩,
 ⟨opCall (f32.orc 0) (some 13) [(.tmp 12)] #[3] 9 "value.go:143" #[eD 1], none⟩,
 ⟨(opAssign (some 2) (.tmp 13) 9 "value.go:143" #[eD 2, eC 2, eP 0, eP 1, eP 2]).op, none⟩
 ] (by kernel_rfl)))
 (.live [2] .ret))
 (.seq (.live [1, 14] (.region 5 [
 ⟨(opFieldAddr (some 15) 24 (.tmp 1) 0 0 1 false fl24_0 (by decide) 0 "value.go:144" #[]).op, none⟩,
 ⟨(opLoadT (.one (.int .i64)) (some 16) 3 (.tmp 15) (.int .i64) Tryd.underlying3 1 sz3 (by kernel_rfl) 3 "value.go:144" #[eD 0]).op, none⟩,
 ⟨(opBin (some 17) .eql 3 (.tmp 16) (.const (Value.int IntKind.i64 2)) 3 4 "value.go:144" #[eD 1]).op, none⟩,
 ⟨(opAssign (some 14) (.tmp 17) 4 "value.go:144" #[eD 2]).op, none⟩
 ] (by kernel_rfl)))
 (.cond (.tmp 14)
 (.seq (.live [2] (.region 6 [
 ⟨(opFieldAddr (some 18) 24 (.tmp 1) 1 1 1 false fl24_1 (by decide) 0 "value.go:145" #[]).op, none⟩,
 ⟨(opLoadT (.one (.int .i64)) (some 19) 3 (.tmp 18) (.int .i64) Tryd.underlying3 1 sz3 (by kernel_rfl) 3 "value.go:145" #[eD 0]).op, none⟩,
 ⟨(opBin (some 20) .eql 3 (.tmp 19) (.const (Value.int IntKind.i64 1)) 3 4 "value.go:145" #[eD 1]).op, none⟩,
 ⟨opCall (f33.orc 0) (some 21) [(.tmp 20)] #[4] 9 "value.go:145" #[eD 2], none⟩,
 ⟨(opAssign (some 2) (.tmp 21) 9 "value.go:145" #[eD 3, eC 3, eP 0, eP 1, eP 2, eP 3]).op, none⟩
 ] (by kernel_rfl)))
 (.live [2] .ret))
 (.seq (.live [1, 22] (.region 7 [
 ⟨(opFieldAddr (some 23) 24 (.tmp 1) 0 0 1 false fl24_0 (by decide) 0 "value.go:146" #[]).op, none⟩,
 ⟨(opLoadT (.one (.int .i64)) (some 24) 3 (.tmp 23) (.int .i64) Tryd.underlying3 1 sz3 (by kernel_rfl) 3 "value.go:146" #[eD 0]).op, none⟩,
 ⟨(opBin (some 25) .eql 3 (.tmp 24) (.const (Value.int IntKind.i64 3)) 3 4 "value.go:146" #[eD 1]).op, none⟩,
 ⟨(opAssign (some 22) (.tmp 25) 4 "value.go:146" #[eD 2]).op, none⟩
 ] (by kernel_rfl)))
 (.cond (.tmp 22)
 (.seq (.live [2] (.region 8 [
 ⟨(opFieldAddr (some 26) 24 (.tmp 1) 2 2 1 false fl24_2 (by decide) 0 "value.go:147" #[]).op, none⟩,
 ⟨(opLoadT (.one .str) (some 27) 9 (.tmp 26) .string Tryd.underlying9 1 sz9 (by kernel_rfl) 9 "value.go:147" #[eD 0]).op, none⟩,
 ⟨(opCallP p34 (some 28) [(.tmp 27)] #[9] 9 "value.go:147" #[eD 1]).op, none⟩,
 ⟨(opAssign (some 2) (.tmp 28) 9 "value.go:147" #[eD 2, eC 2, eP 0, eP 1, eP 2]).op, none⟩
 ] (by kernel_rfl)))
 (.live [2] .ret))
 .skip)))))))))
 (.seq (.live [2] (.region 9 [
 ⟨(opAssign (some 2) (.const (Value.string { data := #[110, 117, 108, 108] })) 9 "value.go:149" #[]).op, none⟩
 ] (by kernel_rfl)))
 (.live [2] .ret))))

noncomputable def g12 : Fun Tryd.prog where
 id := 12
 fn := Tryd.f12
 hf := Tryd.func12
 hname := by kernel_rfl
 body := g12_b
 hbody := by kernel_rfl
 res := [rTmp 2]
 hres := by kernel_rfl
 n := 29
 hn := by kernel_rfl

end Go.Proofs.YtcfedmheblbdnaaDoor.V

/- What the functions' runs come to; the right sides were printed by a tool, Lean checks them. -/
set_option linter.unusedVariables false
set_option maxRecDepth 100000
namespace Go.Proofs.YtcfedmheblbdnaaDoor.V
open Go Go.V Go.RowKit

theorem show_run (F : Nat) (v : Va) (st : St) :
 (g12.run F [v.av] st : Ans) =
 branch (AV.bool !rightV (Va.mk (hdI v.cells) (hdI v.cells.tail) (hdS v.cells.tail.tail)))
 (some (Fin.ret (AV.str (ByteArray.mk #[(63 : UInt8)])), st))
 (branch (AV.bool (v.k == (1 : Int))) (branch (AV.bool (okI v.n)) (some (Fin.ret (AV.str (showI v.n)), st)) none)
 (branch (AV.bool (v.k == (2 : Int)))
 (branch (AV.bool (v.n == (1 : Int)))
 (some (Fin.ret (AV.str (ByteArray.mk #[(116 : UInt8), (114 : UInt8), (117 : UInt8), (101 : UInt8)])), st))
 (some
 (Fin.ret (AV.str (ByteArray.mk #[(102 : UInt8), (97 : UInt8), (108 : UInt8), (115 : UInt8), (101 : UInt8)])),
 st)))
 (branch (AV.bool (v.k == (3 : Int)))
 (branch (AV.bool (cdec ((strL v.s).length ≤ 100000000)))
 (some (Fin.ret (AV.str (strB (34 :: (List.flatMap encQ (strL v.s) ++ [34])))), st)) none)
 (some (Fin.ret (AV.str (ByteArray.mk #[(110 : UInt8), (117 : UInt8), (108 : UInt8), (108 : UInt8)])), st))))) := by kernel_rfl

end Go.Proofs.YtcfedmheblbdnaaDoor.V

/- Values: Show, as a callee. -/
set_option linter.unusedVariables false
namespace Go.Proofs.YtcfedmheblbdnaaDoor.V
open Go Go.V Go.RowKit

def wq : ByteArray := ByteArray.mk #[63]
def wtrue : ByteArray := ByteArray.mk #[116, 114, 117, 101]
def wfalse : ByteArray := ByteArray.mk #[102, 97, 108, 115, 101]
def wnull : ByteArray := ByteArray.mk #[110, 117, 108, 108]
noncomputable def showV (v : Va) : ByteArray := bif rightV v then bif v.k == 1 then showI v.n else bif v.k == 2 then bif v.n == 1 then wtrue else wfalse else bif v.k == 3 then strB (qtL (strL v.s)) else wnull else wq
noncomputable def okSh (v : Va) : Bool := cdec (-9223372036854775808 ≤ v.n ∧ v.n ≤ 9223372036854775807 ∧ v.s.size ≤ 1000)
theorem show_eq (v : Va) (h : okSh v = true) (st : St) : g12.run 0 [v.av] st = some (.ret (.str (showV v)), st) := by
  obtain ⟨h1, h2, h3⟩ := cdec_iff.mp h
  rw [show_run, branch_of (show okI v.n = true from cdec_iff.mpr ⟨h1, h2⟩), branch_of (cdec_iff.mpr (by rw [← strL_size]; omega)), showV]
  show branch (.bool (!rightV v)) _ _ = _
  cases rightV v with
  | false => rfl
  | true =>
    rw [Bool.not_true, branch_false, cond_true]
    cases v.k == 1 with
    | true => rfl
    | false =>
      rw [branch_false, cond_false]
      cases v.k == 2 with
      | true => cases v.n == 1 <;> rfl
      | false => cases v.k == 3 <;> rfl
noncomputable def p12 : POrc Tryd.prog := g12.pureIf dec1v (fun v => [v.av]) dec1v_enc okSh (fun v => .str (showV v)) (fun _ _ => ⟨rfl, fun _ _ => trivial⟩) fun v h => ⟨0, fun st => show_eq v h st⟩
end Go.Proofs.YtcfedmheblbdnaaDoor.V

/- The functions' pieces, as told by gen.py. -/
set_option linter.unusedVariables false
set_option maxRecDepth 20000
namespace Go.Proofs.YtcfedmheblbdnaaDoor.V
open Go Go.V Go.RowKit


/-! ### 41: interlock/interlockref00.Show (3); results 2; slots: 0 v, 1 v, 3 n, 4 d, 5 out, 6 i -/
end Go.Proofs.YtcfedmheblbdnaaDoor.V

/- What the functions' runs come to; the right sides were printed by a tool, Lean checks them. -/
set_option linter.unusedVariables false
set_option maxRecDepth 100000
namespace Go.Proofs.YtcfedmheblbdnaaDoor.V
open Go Go.V Go.RowKit

end Go.Proofs.YtcfedmheblbdnaaDoor.V

/- Values: the references' Show of a number, as a callee. -/
set_option linter.unusedVariables false
namespace Go.Proofs.YtcfedmheblbdnaaDoor.V
open Go Go.V Go.RowKit

end Go.Proofs.YtcfedmheblbdnaaDoor.V

/- Values: the references' Show of a number. -/
set_option linter.unusedVariables false
namespace Go.Proofs.YtcfedmheblbdnaaDoor.V
open Go Go.V Go.RowKit

end Go.Proofs.YtcfedmheblbdnaaDoor.V

/- Values of an interface type that hold numbers of one type: compared. -/
set_option linter.unusedVariables false
set_option linter.unusedSimpArgs false
namespace Go.V
section
variable {P : Program}

def aifc (te : TypeId) (kd : IntKind) (x y : AV) (k : Bool → Ans) : Ans :=
  match x with
  | .ifc t a => match y with
    | .ifc t' b => match Nat.beq t te && Nat.beq t' te with
      | true => match a with
        | .int ka n => match b with
          | .int kb m => match decide (ka = kd) && decide (kb = kd) with
            | true => k (n == m)
            | false => none
          | _ => none
        | _ => none
      | false => none
    | _ => none
  | _ => none
theorem aifc_some {te : TypeId} {kd : IntKind} {x y : AV} {k : Bool → Ans} {fin : Fin × St} (h : aifc te kd x y k = some fin) {g : Gh} {w : World} {v u : Value} (hx : Rel g w x v) (hy : Rel g w y u) :
    ∃ n m, v = .iface te (.int kd n) ∧ u = .iface te (.int kd m) ∧ k (n == m) = some fin := by
  unfold aifc at h
  split at h
  · split at h
    · split at h
      · rename_i hc
        rw [Bool.and_eq_true] at hc
        obtain rfl := Nat.eq_of_beq_eq_true hc.1
        have ht := Nat.eq_of_beq_eq_true hc.2
        split at h
        · split at h
          · split at h
            · rename_i hk
              simp only [Bool.and_eq_true, decide_eq_true_eq] at hk
              obtain ⟨rfl, rfl⟩ := hk
              obtain ⟨a, h1, h2⟩ := hx
              obtain ⟨b, h3, h4⟩ := hy
              have h2 : a = .int _ _ := h2
              have h4 : b = .int _ _ := h4
              subst h2; subst h4
              rw [ht] at h3
              exact ⟨_, _, h1, h3, h⟩
            · cases h
          · cases h
        · cases h
      · cases h
    · cases h
  · cases h
theorem run_eql_ifc {tp te : TypeId} {ms : Array (String × TypeId)} {kd : IntKind} (w : World) (n m : Int) (hp : P.underlying tp = some (.interface ms)) (hu : P.underlying te = some (.int kd)) (hi : (P.info? te).map (·.comparable) = some true) :
    (Op.equal tp (.iface te (.int kd n)) (.iface te (.int kd m))).run P w = .ok (n == m) w := by
  obtain ⟨i, hi, hc⟩ := Option.map_eq_some_iff.1 hi
  have h1 : ∀ d : Nat, (Op.equalIn (d + 1) te (.int kd n) (.int kd m)).run P w = .ok (n == m) w := fun d => by
    simp [Op.equalIn, run_underlying hu]
  have h2 : ∀ d : Nat, (Op.equalIn (d + 1 + 1) tp (.iface te (.int kd n)) (.iface te (.int kd m))).run P w = .ok (n == m) w := fun d => by
    rw [Op.equalIn]
    simp [run_underlying hp, typeInfo, hi, hc, h1 d]
  exact h2 9998
theorem run_eqGuard_ifc (op : BinOp) (T : TypeId) (x y : Operand) (a b : TypeId) (v u : Value) (w : World) : (eqGuard op T x y (.iface a v) (.iface b u)).run P w = .ok () w := by
  unfold eqGuard
  split <;> rfl
/-- An interface type. -/
def ifcB (P : Program) (T : TypeId) : Bool := match P.underlying T with
  | some (.interface _) => true
  | _ => false
theorem ifcB_eq {T : TypeId} (h : ifcB P T = true) : ∃ ms, P.underlying T = some (.interface ms) := by
  unfold ifcB at h
  split at h
  · exact ⟨_, by assumption⟩
  · cases h
def opEqI (dst : Option Tmp) (T te : TypeId) (kd : IntKind) (hT : ifcB P T = true) (hu : P.underlying te = some (.int kd)) (hi : (P.info? te).map (·.comparable) = some true) (x y : Operand) (T' : TypeId) (ty : TypeId) (pos : String) (after : Array Edge) : PSim P :=
  PSim.quiet (mkOp dst (.binOp .eql T x y T') ty pos after) rfl [x, y] (fun ev k => aifc te kd (ev x) (ev y) fun b => k (.bool b)) (fun ev ev' k h => by simp only [h x (by simp), h y (by simp)]) fun ev k fin h g w a st he hs => by
    obtain ⟨n, m, h1, h2, h3⟩ := aifc_some h (he x (by simp)) (he y (by simp))
    obtain ⟨ms, hT⟩ := ifcB_eq hT
    refine ⟨_, _, h3, ?_, rfl⟩
    simp only [execOp, mkOp, h1, h2, Sem.run_bind, run_eqGuard_ifc, Result.andThen_ok, binOp]
    simp [run_eql_ifc (P := P) w n m hT hu hi]
def opNeI (dst : Option Tmp) (T te : TypeId) (kd : IntKind) (hT : ifcB P T = true) (hu : P.underlying te = some (.int kd)) (hi : (P.info? te).map (·.comparable) = some true) (x y : Operand) (T' : TypeId) (ty : TypeId) (pos : String) (after : Array Edge) : PSim P :=
  PSim.quiet (mkOp dst (.binOp .neq T x y T') ty pos after) rfl [x, y] (fun ev k => aifc te kd (ev x) (ev y) fun b => k (.bool !b)) (fun ev ev' k h => by simp only [h x (by simp), h y (by simp)]) fun ev k fin h g w a st he hs => by
    obtain ⟨n, m, h1, h2, h3⟩ := aifc_some h (he x (by simp)) (he y (by simp))
    obtain ⟨ms, hT⟩ := ifcB_eq hT
    refine ⟨_, _, h3, ?_, rfl⟩
    simp only [execOp, mkOp, h1, h2, Sem.run_bind, run_eqGuard_ifc, Result.andThen_ok, binOp]
    simp [run_eql_ifc (P := P) w n m hT hu hi]
/-- make of a slice, as a new growing object. -/
noncomputable def amakeN (sz bytes : Nat) (zc : List AV) (x : AV) (st : St) (k : AV → St → Ans) : Ans :=
  match x with
  | .int _ n => match mkOk bytes n with
    | true => k (.vs st.objs.length 0 sz n.toNat) ⟨st.objs ++ [.vec 0 (zerC n.toNat zc)], st.tk⟩
    | false => none
  | _ => none
noncomputable def opMakeN (dst : Option Tmp) (T : TypeId) (x : Operand) (e sz bytes : Nat) (z : Value) (hT : ElemOf P T e sz bytes z) (zc : List AV) (hz : cellsA (ofLit z) = some zc) (hsz : Nat.beq z.cells.size sz = true) (ty : TypeId) (pos : String) (after : Array Edge) (hok : okE sz e = true := by rfl) : MSim P :=
  MSim.makes (mkOp dst (.makeSlice T x x) ty pos after) rfl [x] (fun ev st k => amakeN sz bytes zc (ev x) st k) (fun ev ev' st k h => by rw [h x (by simp)]) fun ev st k fin h g w a he hs => by
    have hv := he x (by simp)
    unfold amakeN at h
    split at h
    · rename_i kd n hx
      rw [hx] at hv
      have hv : a.eval x = .int kd n := hv
      split at h
      · rename_i hc
        rw [mkOk_iff] at hc
        obtain ⟨m, rfl⟩ : ∃ m : Nat, n = m := ⟨n.toNat, by omega⟩
        simp only [Int.toNat_natCast] at hc h
        have hsz := Nat.eq_of_beq_eq_true hsz
        have hpos := hT.pos
        have hm : m ≤ 281474976710656 := Nat.le_trans (Nat.le_mul_of_pos_left _ (Nat.pos_of_ne_zero hpos)) hc.2
        rw [zerC, opq_eq] at h
        obtain ⟨h1, h1c⟩ := cellsA_rel hz (ofLit_rel g w z)
        have hlist : (madeCells z.cells (m * sz)).toList = (List.replicate m z.cells.toList).flatten := by rw [← hsz]; exact madeCells_list _ _
        have hone : ∀ u ∈ (madeCells z.cells (m * sz)).toList, u.oneCell' = true := by
          intro u hm
          rw [hlist] at hm
          obtain ⟨l, hl1, hl2⟩ := List.mem_flatten.mp hm
          rw [List.eq_of_mem_replicate hl1] at hl2
          exact h1c u hl2
        have e1 : (madeCells z.cells (m * sz)).toList.take (List.replicate m zc).flatten.length = (madeCells z.cells (m * sz)).toList := List.take_of_length_le (by rw [RelAll.length _ _ (h1.rep m), ← hlist]; exact Nat.le_refl _)
        obtain ⟨g', k1, k2, k3, _⟩ := vec_new hs (Push.alloc w (.cells (madeCells z.cells (m * sz)) e)) (cs := (List.replicate m zc).flatten) (by rw [e1, hlist]; exact h1.rep m) (by rw [e1]; exact hone)
        refine ⟨_, .slice (some ⟨w.heap.size, 0, none⟩) m m, _, g', w.alloc (.cells (madeCells z.cells (m * sz)) e), h, ?_, k3 m sz m (Nat.le_refl _) ?_ hok, k1, k2⟩
        · simp [execOp, mkOp, hv, runs_make hT w kd m (by simpa using hc.2) (by simp; omega)]
        · have e2 : (madeCells z.cells (m * sz)).size = (madeCells z.cells (m * sz)).toList.length := by simp
          rw [e2, hlist]
          simp [List.length_flatten, hsz]
      · cases h
    · cases h
end
end Go.V

/- The functions' pieces, as told by gen.py. -/
set_option linter.unusedVariables false
set_option maxRecDepth 20000
namespace Go.Proofs.YtcfedmheblbdnaaDoor.V
open Go Go.V Go.RowKit


/-! ### 30: interlock/interlockref04.place (5); results 2; slots: 0 c, 1 c, 3 i -/
end Go.Proofs.YtcfedmheblbdnaaDoor.V

/- The functions' pieces, as told by gen.py. -/
set_option linter.unusedVariables false
set_option maxRecDepth 20000
namespace Go.Proofs.YtcfedmheblbdnaaDoor.V
open Go Go.V Go.RowKit


/-! ### 31: interlock/interlockref04.number (9); results 2; slots: 0 s, 1 s, 3 n, 4 i -/
end Go.Proofs.YtcfedmheblbdnaaDoor.V

/- What the functions' runs come to; the right sides were printed by a tool, Lean checks them. -/
set_option linter.unusedVariables false
set_option maxRecDepth 100000
namespace Go.Proofs.YtcfedmheblbdnaaDoor.V
open Go Go.V Go.RowKit

end Go.Proofs.YtcfedmheblbdnaaDoor.V

/- The functions' pieces, as told by gen.py. -/
set_option linter.unusedVariables false
set_option maxRecDepth 20000
namespace Go.Proofs.YtcfedmheblbdnaaDoor.V
open Go Go.V Go.RowKit


/-! ### 24: interlock/interlockref04.Show (24); results 2; slots: 0 v, 1 v, 3 out, 4 i, 5 c -/
end Go.Proofs.YtcfedmheblbdnaaDoor.V

/- What the functions' runs come to; the right sides were printed by a tool, Lean checks them. -/
set_option linter.unusedVariables false
set_option maxRecDepth 100000
namespace Go.Proofs.YtcfedmheblbdnaaDoor.V
open Go Go.V Go.RowKit

end Go.Proofs.YtcfedmheblbdnaaDoor.V

/- Values: the reference's Show, as a callee. -/
set_option linter.unusedVariables false
namespace Go.Proofs.YtcfedmheblbdnaaDoor.V
open Go Go.V Go.RowKit

theorem encQ_esc {x : Nat} (h : escB x = true) : encQ x = [92, hexD (x / 16), hexD (x % 16)] := by rw [encQ, h]; rfl
theorem encQ_plain {x : Nat} (h : escB x = false) : encQ x = [x] := by rw [encQ, h]; rfl
theorem escB_eq (x : Nat) : escB x = (decide (x < 32) || (decide (126 < x) || (decide (x = 34) || decide (x = 92)))) := by
  rw [Bool.eq_iff_iff]
  simp only [escB, Bool.or_eq_true, Nat.blt_eq, Nat.beq_eq, decide_eq_true_eq]
section
variable (F m : Nat) (K' : Cont) (k n : Int) (s : ByteArray) (i x : Nat) (hi : i < (strL s).length) (hx : (strL s)[i] = x) (hs : s.size ≤ 1000)
include hi hx hs
end
end Go.Proofs.YtcfedmheblbdnaaDoor.V

/- Values: the reference's Show, as a callee. -/
set_option linter.unusedVariables false
namespace Go.Proofs.YtcfedmheblbdnaaDoor.V
open Go Go.V Go.RowKit

end Go.Proofs.YtcfedmheblbdnaaDoor.V

/- The functions' pieces, as told by gen.py. -/
set_option linter.unusedVariables false
set_option maxRecDepth 20000
namespace Go.Proofs.YtcfedmheblbdnaaDoor.V
open Go Go.V Go.RowKit


/-! ### 18: interlock/value.Compare (24, 24); results 4, 5; slots: 0 a, 1 b, 2 a, 3 b -/
/-! ### 19: interlock/interlockref04.Compare (24, 24); results 4, 5; slots: 0 a, 1 b, 2 a, 3 b -/
end Go.Proofs.YtcfedmheblbdnaaDoor.V

/- What the functions' runs come to; the right sides were printed by a tool, Lean checks them. -/
set_option linter.unusedVariables false
set_option maxRecDepth 100000
namespace Go.Proofs.YtcfedmheblbdnaaDoor.V
open Go Go.V Go.RowKit

end Go.Proofs.YtcfedmheblbdnaaDoor.V

/- Values: both sides' Compare, as callees. -/
set_option linter.unusedVariables false
namespace Go.Proofs.YtcfedmheblbdnaaDoor.V
open Go Go.V Go.RowKit

end Go.Proofs.YtcfedmheblbdnaaDoor.V

/- The functions' pieces, as told by gen.py. -/
set_option linter.unusedVariables false
set_option maxRecDepth 20000
namespace Go.Proofs.YtcfedmheblbdnaaDoor.V
open Go Go.V Go.RowKit


/-! ### 7: interlock/interlocklaw04.ValueAsks (24, 24, 32); results 6; slots: 0 a, 1 b, 2 c, 3 a, 4 b, 5 c, 7 x, 8 ok, 9 y, 10 is -/
end Go.Proofs.YtcfedmheblbdnaaDoor.V

/- What the functions' runs come to; the right sides were printed by a tool, Lean checks them. -/
set_option linter.unusedVariables false
set_option maxRecDepth 100000
namespace Go.Proofs.YtcfedmheblbdnaaDoor.V
open Go Go.V Go.RowKit

end Go.Proofs.YtcfedmheblbdnaaDoor.V

/- Values: ValueAsks is true. -/
set_option linter.unusedVariables false
namespace Go.Proofs.YtcfedmheblbdnaaDoor.V
open Go Go.V Go.RowKit

end Go.Proofs.YtcfedmheblbdnaaDoor.V

/- The functions' pieces, as told by gen.py. -/
set_option linter.unusedVariables false
set_option maxRecDepth 20000
namespace Go.Proofs.YtcfedmheblbdnaaDoor.V
open Go Go.V Go.RowKit


/-! ### 91: internal/stringslite.Clone (9); results 2; slots: 0 s, 1 s, 3 b -/
noncomputable def f91_b : Sim Tryd.prog :=
 (.seq (.live [0] (.region 0 [
 ⟨(opAssign (some 2) (.const (Value.string { data := #[] })) 9 "strings.go:115" #[]).op, none⟩
 ] (by kernel_rfl)))
 (.seq (.seq (.live [0, 6] (.region 1 [
 ⟨(opMove (some 4) (.tmp 0) 9 "strings.go:116" #[]).op, none⟩,
 ⟨(opLen (some 5) (.tmp 4) 9 .string Tryd.underlying9 3 "strings.go:116" #[eD 0]).op, none⟩,
 ⟨(opBin (some 6) .eql 3 (.tmp 5) (.const (Value.int IntKind.i64 0)) 3 4 "strings.go:116" #[eD 1]).op, none⟩
 ] (by kernel_rfl)))
 (.cond (.tmp 6)
 (.seq (.live [2] (.region 2 [
 ⟨(opAssign (some 2) (.const (Value.string { data := #[] })) 9 "strings.go:117" #[]).op, none⟩
 ] (by kernel_rfl)))
 (.live [2] .ret))
 .skip))
 (.seq (.live [0, 3] (.region 3 [
 ⟨(opMove (some 7) (.tmp 0) 9 "strings.go:119" #[]).op, none⟩,
 ⟨(opLen (some 8) (.tmp 7) 9 .string Tryd.underlying9 3 "strings.go:119" #[eD 0]).op, none⟩,
 ⟨(opMakeN (some 9) 46 (.tmp 8) 5 1 1 (.int .u8 0) el46 [AV.int .u8 0] (by kernel_rfl) (by kernel_rfl) 46 "strings.go:119" #[eD 1, eD 1]).op, none⟩,
 ⟨(opAssign (some 3) (.tmp 9) 46 "strings.go:119" #[eD 2, eP 0, eP 1, eP 2]).op, none⟩
 ] (by kernel_rfl)))
 (.seq (.live [3] (.region 4 [
 ⟨(opMove (some 10) (.tmp 3) 46 "strings.go:120" #[]).op, none⟩,
 ⟨(opMove (some 11) (.tmp 0) 9 "strings.go:120" #[]).op, none⟩,
 ⟨(opCopyV (some 12) (.tmp 10) (.tmp 11) 46 9 5 1 Tryd.underlying46 sz5 3 "strings.go:120" #[eD 0, eD 1]).op, none⟩
 ] (by kernel_rfl)))
 (.seq (.live [2] (.region 5 [
 ⟨(opMove (some 13) (.tmp 3) 46 "strings.go:121" #[]).op, none⟩,
 ⟨(opIndexAddrT (some 14) 46 (.tmp 13) (.const (Value.int IntKind.i64 0)) 5 1 Tryd.underlying46 sz5 0 "strings.go:121" #[eD 0]).op, none⟩,
 ⟨(opMove (some 15) (.tmp 3) 46 "strings.go:121" #[]).op, none⟩,
 ⟨(opLen (some 16) (.tmp 15) 46 (.slice 5) Tryd.underlying46 3 "strings.go:121" #[eD 2]).op, none⟩,
 ⟨(opUString (some 17) (.tmp 14) (.tmp 16) (.tmp 3) 93 3 5 Tryd.underlying93 (by kernel_rfl) (by intro E h; simpa [okE] using h) 9 "strings.go:121" #[eD 1, eD 3]).op, none⟩,
 ⟨(opAssign (some 2) (.tmp 17) 9 "strings.go:121" #[eD 4, eP 0, eP 1, eP 2, eP 3, eP 4]).op, none⟩
 ] (by kernel_rfl)))
 (.live [2] .ret))))))

noncomputable def f91 : Fun Tryd.prog where
 id := 91
 fn := Tryd.f91
 hf := Tryd.func91
 hname := by kernel_rfl
 body := f91_b
 hbody := by kernel_rfl
 res := [rTmp 2]
 hres := by kernel_rfl
 n := 18
 hn := by kernel_rfl

end Go.Proofs.YtcfedmheblbdnaaDoor.V

/- What the functions' runs come to; the right sides were printed by a tool, Lean checks them. -/
set_option linter.unusedVariables false
set_option maxRecDepth 100000
namespace Go.Proofs.YtcfedmheblbdnaaDoor.V
open Go Go.V Go.RowKit

theorem cl_run (F : Nat) (s : ByteArray) :
 (f91.run F [.str s] ⟨[], []⟩ : Ans) =
 branch (AV.bool ((↑s.size : Int) == (0 : Int))) (some (Fin.ret (AV.str (ByteArray.mk #[])), St.mk [] []))
 (branch (AV.bool (mkOk 1 (↑s.size : Int)))
 (branch
 (AV.bool
 (true &&
 inC (zerC (↑s.size : Int).toNat [AV.int IntKind.u8 (0 : Int)]) 0
 (mulN
 (minN (List.map (fun (c : UInt8) => [AV.int IntKind.u8 (↑c.toNat : Int)]) s.data.toList).length
 (↑s.size : Int).toNat)
 1)))
 (if (0 : Int) ≤ (0 : Int) ∧ (0 : Int) < (↑(↑s.size : Int).toNat : Int) then
 branch
 (AV.bool
 (true &&
 uOk (↑(↑s.size : Int).toNat : Int)
 (setC (zerC (↑s.size : Int).toNat [AV.int IntKind.u8 (0 : Int)]) 0
 (flC (List.map (fun (c : UInt8) => [AV.int IntKind.u8 (↑c.toNat : Int)]) s.data.toList)
 (minN (List.map (fun (c : UInt8) => [AV.int IntKind.u8 (↑c.toNat : Int)]) s.data.toList).length
 (↑s.size : Int).toNat))).length))
 (onSome
 (bytesC
 (setC (zerC (↑s.size : Int).toNat [AV.int IntKind.u8 (0 : Int)]) 0
 (flC (List.map (fun (c : UInt8) => [AV.int IntKind.u8 (↑c.toNat : Int)]) s.data.toList)
 (minN (List.map (fun (c : UInt8) => [AV.int IntKind.u8 (↑c.toNat : Int)]) s.data.toList).length
 (↑s.size : Int).toNat))))
 none fun (o : List Nat) => some (Fin.ret (AV.str (strB o)), St.mk [Ob.nov 1] []))
 none
 else none)
 none)
 none) := by kernel_rfl

end Go.Proofs.YtcfedmheblbdnaaDoor.V

/- Values: a text's copy, as a callee. -/
set_option linter.unusedVariables false
namespace Go.Proofs.YtcfedmheblbdnaaDoor.V
open Go Go.V Go.RowKit

theorem cl_eq (s : ByteArray) (hs : s.size ≤ 100000) : ∃ st', f91.run 0 [.str s] ⟨[], []⟩ = some (.ret (.str s), st') := by
  rw [cl_run]
  have hsz := strL_size s
  by_cases h0 : s.size = 0
  · have hl : strL s = [] := List.eq_nil_of_length_eq_zero (by omega)
    rw [branch_of (show ((s.size : Int) == 0) = true by rw [h0]; rfl), show (ByteArray.mk #[]) = s from strL_inj (by rw [hl]; rfl)]
    exact ⟨_, rfl⟩
  · have e1 : List.map (fun (c : UInt8) => [AV.int IntKind.u8 (↑c.toNat : Int)]) s.data.toList = bR (strL s) := strL_rows s
    have e2 : minN (bR (strL s)).length s.size = s.size := by rw [minN, opq_eq, bR_length, ← hsz]; omega
    have e3 : setC (zerC s.size [AV.int IntKind.u8 (0 : Int)]) 0 (flC (bR (strL s)) s.size) = bC (strL s) := by
      rw [zerC_byte, flC_bR, List.take_of_length_le (by omega), setC_bC (by simp; omega)]
      congr 1
      unfold putN
      simp
      omega
    rw [branch_not (show ((s.size : Int) == 0) = false by rw [beq_eq_false_iff_ne]; omega), Int.toNat_natCast, e1, e2, e3, branch_of (mkOk_iff.mpr ⟨by omega, by omega⟩), branch_of (show (true && inC (zerC s.size [AV.int IntKind.u8 (0 : Int)]) 0 (mulN s.size 1)) = true by rw [Bool.true_and, inC_iff, mulN, opq_eq, zerC_byte, bC_length]; simp),
      if_pos ⟨by omega, by omega⟩, branch_of (show (true && uOk (s.size : Int) (bC (strL s)).length) = true by rw [Bool.true_and, uOk_iff, bC_length]; omega), bytesC_bC (strL_lt s)]
    exact ⟨_, by simp only [onSome]; rw [strB_strL]⟩
noncomputable def p91 : POrc Tryd.prog := f91.flatIf dec1s (fun s => [.str s]) dec1s_enc (fun s => cdec (s.size ≤ 100000)) (fun s => .str s) (fun _ => ⟨trivial, trivial⟩) (fun _ => trivial) fun s h => by
  obtain ⟨st', hr⟩ := cl_eq s (cdec_iff.mp h)
  exact ⟨0, st', hr⟩
theorem p91_nat : p91.Nat := flatIf_nat
end Go.Proofs.YtcfedmheblbdnaaDoor.V

/- The functions' pieces, as told by gen.py. -/
set_option linter.unusedVariables false
set_option maxRecDepth 20000
namespace Go.Proofs.YtcfedmheblbdnaaDoor.V
open Go Go.V Go.RowKit


/-! ### 99: internal/strconv.lower (5); results 2; slots: 0 c, 1 c -/
noncomputable def f99_b : Sim Tryd.prog :=
 (.seq (.live [0] (.region 0 [
 ⟨(opAssign (some 2) (.const (Value.int IntKind.u8 0)) 5 "atoi.go:11" #[]).op, none⟩
 ] (by kernel_rfl)))
 (.seq (.live [2] (.region 1 [
 ⟨(opMove (some 3) (.tmp 0) 5 "atoi.go:12" #[]).op, none⟩,
 ⟨(opBin (some 4) .or 5 (.tmp 3) (.const (Value.int IntKind.u8 32)) 5 5 "atoi.go:12" #[eD 0]).op, none⟩,
 ⟨(opAssign (some 2) (.tmp 4) 5 "atoi.go:12" #[eD 1, eP 0, eP 1]).op, none⟩
 ] (by kernel_rfl)))
 (.live [2] .ret)))

noncomputable def f99 : Fun Tryd.prog where
 id := 99
 fn := Tryd.f99
 hf := Tryd.func99
 hname := by kernel_rfl
 body := f99_b
 hbody := by kernel_rfl
 res := [rTmp 2]
 hres := by kernel_rfl
 n := 5
 hn := by kernel_rfl

/-! ### 90: internal/strconv.ParseUint (9, 3, 3); results 6, 7; slots:  -/
/-- A loop's round; at its head live: 1 , 8 , 9 , 10 , 11 , 12 , 13 , 99 , 100 , 101  -/
noncomputable def f90_l0 : Sim Tryd.prog :=
 (.seq (.live [1, 8, 9, 10, 11, 12, 13, 99, 100, 101, 102] (.region 36 [
 ⟨(opBin (some 102) .lss 3 (.tmp 101) (.tmp 100) 3 0 "atoi.go:108" #[]).op, none⟩
 ] (by kernel_rfl)))
 (.seq (.cond (.tmp 102)
 .skip
 (.live [9, 12, 13] (.exit 3)))
 (.seq (.block 4 (.seq (.live [1, 8, 9, 10, 11, 12, 13, 15, 99, 100, 101] (.region 37 [
 ⟨(opIndexAddrT (some 103) 46 (.tmp 99) (.tmp 101) 5 1 Tryd.underlying46 sz5 0 "atoi.go:108" #[]).op, none⟩,
 ⟨(opLoadT (.one (.int .u8)) (some 104) 5 (.tmp 103) (.int .u8) Tryd.underlying5 1 sz5 (by kernel_rfl) 5 "atoi.go:108" #[eD 0]).op, none⟩,
 ⟨(opAssign (some 15) (.tmp 104) 5 "atoi.go:108" #[eD 1, eP 0, eP 1]).op, none⟩
 ] (by kernel_rfl)))
 (.seq (.live [1, 8, 9, 10, 11, 12, 13, 15, 99, 100, 101] (.region 38 [
 ⟨(opAssign (some 16) (.const (Value.int IntKind.u8 0)) 5 "atoi.go:109" #[]).op, none⟩
 ] (by kernel_rfl)))
 (.seq (.block 5 (.seq (.live [1, 8, 9, 10, 11, 12, 13, 15, 99, 100, 101, 106] (.region 40 [
 ⟨(opMove (some 107) (.tmp 15) 5 "atoi.go:111" #[]).op, none⟩,
 ⟨(opBin (some 108) .eql 5 (.tmp 107) (.const (Value.int IntKind.u8 95)) 5 4 "atoi.go:111" #[eD 0]).op, none⟩,
 ⟨(opMove (some 109) (.tmp 108) 4 "atoi.go:111" #[eD 1]).op, none⟩,
 ⟨(opMove (some 110) (.tmp 8) 4 "atoi.go:111" #[eG 2]).op, (some (2, 109, true))⟩,
 ⟨(opPick (some 111) (.tmp 109) (.tmp 110) (.const (Value.bool false)) 4 "atoi.go:111" #[eD 2, eD 3]).op, none⟩,
 ⟨(opAssign (some 106) (.tmp 111) 4 "atoi.go:111" #[eD 4, eC 2]).op, none⟩
 ] (by kernel_rfl)))
 (.cond (.tmp 106)
 (.seq (.live [1, 8, 9, 10, 11, 12, 13, 99, 100, 101] (.region 41 [
 ⟨(opAssign (some 12) (.const (Value.bool true)) 4 "atoi.go:112" #[]).op, none⟩
 ] (by kernel_rfl)))
 (.live [1, 8, 9, 10, 11, 12, 13, 99, 100, 101] (.exit 4)))
 (.seq (.live [1, 8, 9, 10, 11, 12, 13, 15, 99, 100, 101, 112] (.region 42 [
 ⟨(opMove (some 113) (.tmp 15) 5 "atoi.go:114" #[]).op, none⟩,
 ⟨(opBin (some 114) .leq 5 (.const (Value.int IntKind.u8 48)) (.tmp 113) 5 4 "atoi.go:114" #[eD 0]).op, none⟩,
 ⟨(opMove (some 115) (.tmp 114) 4 "atoi.go:114" #[eD 1]).op, none⟩,
 ⟨(opMove (some 116) (.tmp 15) 5 "atoi.go:114" #[eG 2]).op, (some (2, 115, true))⟩,
 ⟨(opBin (some 117) .leq 5 (.tmp 116) (.const (Value.int IntKind.u8 57)) 5 4 "atoi.go:114" #[eD 3, eG 2]).op, (some (2, 115, true))⟩,
 ⟨(opPick (some 118) (.tmp 115) (.tmp 117) (.const (Value.bool false)) 4 "atoi.go:114" #[eD 2, eD 4]).op, none⟩,
 ⟨(opAssign (some 112) (.tmp 118) 4 "atoi.go:114" #[eD 5, eC 2]).op, none⟩
 ] (by kernel_rfl)))
 (.cond (.tmp 112)
 (.live [1, 8, 9, 10, 11, 12, 13, 16, 99, 100, 101] (.region 43 [
 ⟨(opMove (some 119) (.tmp 15) 5 "atoi.go:115" #[]).op, none⟩,
 ⟨(opBin (some 120) .sub 5 (.tmp 119) (.const (Value.int IntKind.u8 48)) 5 5 "atoi.go:115" #[eD 0]).op, none⟩,
 ⟨(opAssign (some 16) (.tmp 120) 5 "atoi.go:115" #[eD 1, eP 0, eP 1]).op, none⟩
 ] (by kernel_rfl)))
 (.seq (.live [1, 8, 9, 10, 11, 12, 13, 15, 99, 100, 101, 121] (.region 44 [
 ⟨(opMove (some 122) (.tmp 15) 5 "atoi.go:116" #[]).op, none⟩,
 ⟨opCall (f99.orc 0) (some 123) [(.tmp 122)] #[5] 5 "atoi.go:116" #[eD 0], none⟩,
 ⟨(opBin (some 124) .leq 5 (.const (Value.int IntKind.u8 97)) (.tmp 123) 5 4 "atoi.go:116" #[eD 1]).op, none⟩,
 ⟨(opMove (some 125) (.tmp 124) 4 "atoi.go:116" #[eD 2, eC 1]).op, none⟩,
 ⟨(opMove (some 126) (.tmp 15) 5 "atoi.go:116" #[eG 3]).op, (some (3, 125, true))⟩,
 ⟨opCall (f99.orc 0) (some 127) [(.tmp 126)] #[5] 5 "atoi.go:116" #[eD 4, eC 3, eG 3], (some (3, 125, true))⟩,
 ⟨(opBin (some 128) .leq 5 (.tmp 127) (.const (Value.int IntKind.u8 122)) 5 4 "atoi.go:116" #[eD 5, eG 3]).op, (some (3, 125, true))⟩,
 ⟨(opPick (some 129) (.tmp 125) (.tmp 128) (.const (Value.bool false)) 4 "atoi.go:116" #[eD 3, eD 6]).op, none⟩,
 ⟨(opAssign (some 121) (.tmp 129) 4 "atoi.go:116" #[eD 7, eC 5]).op, none⟩
 ] (by kernel_rfl)))
 (.cond (.tmp 121)
 (.live [1, 8, 9, 10, 11, 12, 13, 16, 99, 100, 101] (.region 45 [
 ⟨(opMove (some 130) (.tmp 15) 5 "atoi.go:117" #[]).op, none⟩,
 ⟨opCall (f99.orc 0) (some 131) [(.tmp 130)] #[5] 5 "atoi.go:117" #[eD 0], none⟩,
 ⟨(opBin (some 132) .sub 5 (.tmp 131) (.const (Value.int IntKind.u8 97)) 5 5 "atoi.go:117" #[eD 1]).op, none⟩,
 ⟨(opBin (some 133) .add 5 (.tmp 132) (.const (Value.int IntKind.u8 10)) 5 5 "atoi.go:117" #[eD 2]).op, none⟩,
 ⟨(opAssign (some 16) (.tmp 133) 5 "atoi.go:117" #[eD 3, eC 1, eP 0, eP 1, eP 2, eP 3]).op, none⟩
 ] (by kernel_rfl)))
 (.seq (.live [6, 7] (.region 39 [
 ⟨(opMakeIface (some 105) 99 (.const (Value.int IntKind.i64 2)) (.int .i64) Tryd.underlying99 (by kernel_rfl) 73 "atoi.go:119" #[{ on := 1, ground := (Ground.gcOnly Departure.lateStores) }]).op, none⟩,
 ⟨(opAssign (some 6) (.const (Value.int IntKind.u64 0)) 84 "atoi.go:119" #[{ on := 0, ground := (Ground.textOnly Departure.lateStores) }]).op, none⟩,
 ⟨(opAssign (some 7) (.tmp 105) 73 "atoi.go:119" #[eD 0, eC 1, eP 0, eP 1]).op, none⟩
 ] (by kernel_rfl)))
 (.live [6, 7] .ret)))))))))
 (.seq (.seq (.live [1, 8, 9, 10, 11, 12, 13, 16, 99, 100, 101, 137] (.region 46 [
 ⟨(opMove (some 134) (.tmp 16) 5 "atoi.go:122" #[]).op, none⟩,
 ⟨(opMove (some 135) (.tmp 1) 3 "atoi.go:122" #[]).op, none⟩,
 ⟨(opConvInt (some 136) 3 5 (.tmp 135) (.int .i64) Tryd.underlying3 .u8 Tryd.underlying5 5 "atoi.go:122" #[eD 1]).op, none⟩,
 ⟨(opBin (some 137) .geq 5 (.tmp 134) (.tmp 136) 5 4 "atoi.go:122" #[eD 0, eD 2]).op, none⟩
 ] (by kernel_rfl)))
 (.cond (.tmp 137)
 (.seq (.live [6, 7] (.region 47 [
 ⟨(opMakeIface (some 138) 99 (.const (Value.int IntKind.i64 2)) (.int .i64) Tryd.underlying99 (by kernel_rfl) 73 "atoi.go:123" #[{ on := 1, ground := (Ground.gcOnly Departure.lateStores) }]).op, none⟩,
 ⟨(opAssign (some 6) (.const (Value.int IntKind.u64 0)) 84 "atoi.go:123" #[{ on := 0, ground := (Ground.textOnly Departure.lateStores) }]).op, none⟩,
 ⟨(opAssign (some 7) (.tmp 138) 73 "atoi.go:123" #[eD 0, eC 1, eP 0, eP 1]).op, none⟩
 ] (by kernel_rfl)))
 (.live [6, 7] .ret))
 .skip))
 (.seq (.seq (.live [1, 8, 9, 10, 11, 12, 13, 16, 99, 100, 101, 141] (.region 48 [
 ⟨(opMove (some 139) (.tmp 13) 84 "atoi.go:126" #[]).op, none⟩,
 ⟨(opMove (some 140) (.tmp 10) 84 "atoi.go:126" #[]).op, none⟩,
 ⟨(opBin (some 141) .geq 84 (.tmp 139) (.tmp 140) 84 4 "atoi.go:126" #[eD 0, eD 1]).op, none⟩
 ] (by kernel_rfl)))
 (.cond (.tmp 141)
 (.seq (.live [6, 7] (.region 49 [
 ⟨(opMove (some 142) (.tmp 11) 84 "atoi.go:128" #[]).op, none⟩,
 ⟨(opMakeIface (some 143) 99 (.const (Value.int IntKind.i64 1)) (.int .i64) Tryd.underlying99 (by kernel_rfl) 73 "atoi.go:128" #[{ on := 2, ground := (Ground.gcOnly Departure.lateStores) }]).op, none⟩,
 ⟨(opAssign (some 6) (.tmp 142) 84 "atoi.go:128" #[eD 0, eP 0, { on := 1, ground := (Ground.textOnly Departure.lateStores) }]).op, none⟩,
 ⟨(opAssign (some 7) (.tmp 143) 73 "atoi.go:128" #[eD 1, eC 2, eP 0, eP 1, eP 2]).op, none⟩
 ] (by kernel_rfl)))
 (.live [6, 7] .ret))
 .skip))
 (.seq (.live [1, 8, 9, 10, 11, 12, 13, 16, 99, 100, 101] (.region 50 [
 ⟨(opMove (some 144) (.tmp 13) 84 "atoi.go:130" #[]).op, none⟩,
 ⟨(opMove (some 145) (.tmp 1) 3 "atoi.go:130" #[]).op, none⟩,
 ⟨(opConvInt (some 146) 3 84 (.tmp 145) (.int .i64) Tryd.underlying3 .u64 Tryd.underlying84 84 "atoi.go:130" #[eD 1]).op, none⟩,
 ⟨(opBin (some 147) .mul 84 (.tmp 144) (.tmp 146) 84 84 "atoi.go:130" #[eD 0, eD 2]).op, none⟩,
 ⟨(opAssign (some 13) (.tmp 147) 84 "atoi.go:130" #[eD 3, eP 0, eP 1, eP 2, eP 3]).op, none⟩
 ] (by kernel_rfl)))
 (.seq (.live [1, 8, 9, 10, 11, 12, 13, 17, 99, 100, 101] (.region 51 [
 ⟨(opMove (some 148) (.tmp 13) 84 "atoi.go:132" #[]).op, none⟩,
 ⟨(opMove (some 149) (.tmp 16) 5 "atoi.go:132" #[]).op, none⟩,
 ⟨(opConvInt (some 150) 5 84 (.tmp 149) (.int .u8) Tryd.underlying5 .u64 Tryd.underlying84 84 "atoi.go:132" #[eD 1]).op, none⟩,
 ⟨(opBin (some 151) .add 84 (.tmp 148) (.tmp 150) 84 84 "atoi.go:132" #[eD 0, eD 2]).op, none⟩,
 ⟨(opAssign (some 17) (.tmp 151) 84 "atoi.go:132" #[eD 3, eP 0, eP 1, eP 2, eP 3]).op, none⟩
 ] (by kernel_rfl)))
 (.seq (.seq (.live [1, 8, 9, 10, 11, 12, 17, 99, 100, 101, 159] (.region 52 [
 ⟨(opMove (some 152) (.tmp 17) 84 "atoi.go:133" #[]).op, none⟩,
 ⟨(opMove (some 153) (.tmp 13) 84 "atoi.go:133" #[]).op, none⟩,
 ⟨(opBin (some 154) .lss 84 (.tmp 152) (.tmp 153) 84 4 "atoi.go:133" #[eD 0, eD 1]).op, none⟩,
 ⟨(opMove (some 155) (.tmp 154) 4 "atoi.go:133" #[eD 2]).op, none⟩,
 ⟨(opMove (some 156) (.tmp 17) 84 "atoi.go:133" #[eG 3]).op, (some (3, 155, false))⟩,
 ⟨(opMove (some 157) (.tmp 11) 84 "atoi.go:133" #[eG 3]).op, (some (3, 155, false))⟩,
 ⟨(opBin (some 158) .gtr 84 (.tmp 156) (.tmp 157) 84 4 "atoi.go:133" #[eD 4, eD 5, eG 3]).op, (some (3, 155, false))⟩,
 ⟨(opPick (some 159) (.tmp 155) (.const (Value.bool true)) (.tmp 158) 4 "atoi.go:133" #[eD 3, eD 6]).op, none⟩
 ] (by kernel_rfl)))
 (.cond (.tmp 159)
 (.seq (.live [6, 7] (.region 53 [
 ⟨(opMove (some 160) (.tmp 11) 84 "atoi.go:135" #[]).op, none⟩,
 ⟨(opMakeIface (some 161) 99 (.const (Value.int IntKind.i64 1)) (.int .i64) Tryd.underlying99 (by kernel_rfl) 73 "atoi.go:135" #[{ on := 2, ground := (Ground.gcOnly Departure.lateStores) }]).op, none⟩,
 ⟨(opAssign (some 6) (.tmp 160) 84 "atoi.go:135" #[eD 0, eP 0, { on := 1, ground := (Ground.textOnly Departure.lateStores) }]).op, none⟩,
 ⟨(opAssign (some 7) (.tmp 161) 73 "atoi.go:135" #[eD 1, eC 2, eP 0, eP 1, eP 2]).op, none⟩
 ] (by kernel_rfl)))
 (.live [6, 7] .ret))
 .skip))
 (.live [1, 8, 9, 10, 11, 12, 13, 99, 100, 101] (.region 54 [
 ⟨(opMove (some 162) (.tmp 17) 84 "atoi.go:137" #[]).op, none⟩,
 ⟨(opAssign (some 13) (.tmp 162) 84 "atoi.go:137" #[eD 0, eP 0]).op, none⟩
 ] (by kernel_rfl))))))))))))
 (.live [1, 8, 9, 10, 11, 12, 13, 99, 100, 101] (.region 55 [
 ⟨(opBin (some 163) .add 3 (.tmp 101) (.const (Value.int IntKind.i64 1)) 3 3 "atoi.go:108" #[]).op, none⟩,
 ⟨(opMove (some 101) (.tmp 163) 3 "atoi.go:108" #[eD 0]).op, none⟩
 ] (by kernel_rfl))))))

/-- What follows a loop. -/
noncomputable def f90_r0 : Sim Tryd.prog :=
 (.seq (.seq (.live [13, 169] (.region 56 [
 ⟨(opMove (some 164) (.tmp 12) 4 "atoi.go:140" #[]).op, none⟩,
 ⟨(opMove (some 165) (.tmp 164) 4 "atoi.go:140" #[eD 0]).op, none⟩,
 ⟨(opMove (some 166) (.tmp 9) 9 "atoi.go:140" #[eG 1]).op, (some (1, 165, true))⟩,
 ⟨opCall (Orc.dead 100 Tryd.f100 Tryd.func100 (by kernel_rfl) (by kernel_rfl)) (some 167) [(.tmp 166)] #[9] 4 "atoi.go:140" #[eD 2, eC 1, eG 1], (some (1, 165, true))⟩,
 ⟨(opNot (some 168) 4 (.tmp 167) 4 "atoi.go:140" #[eD 3, eG 1]).op, (some (1, 165, true))⟩,
 ⟨(opPick (some 169) (.tmp 165) (.tmp 168) (.const (Value.bool false)) 4 "atoi.go:140" #[eD 1, eD 4]).op, none⟩
 ] (by kernel_rfl)))
 (.cond (.tmp 169)
 (.seq (.live [6, 7] (.region 57 [
 ⟨(opMakeIface (some 170) 99 (.const (Value.int IntKind.i64 2)) (.int .i64) Tryd.underlying99 (by kernel_rfl) 73 "atoi.go:141" #[{ on := 1, ground := (Ground.gcOnly Departure.lateStores) }]).op, none⟩,
 ⟨(opAssign (some 6) (.const (Value.int IntKind.u64 0)) 84 "atoi.go:141" #[{ on := 0, ground := (Ground.textOnly Departure.lateStores) }]).op, none⟩,
 ⟨(opAssign (some 7) (.tmp 170) 73 "atoi.go:141" #[eD 0, eC 1, eP 0, eP 1]).op, none⟩
 ] (by kernel_rfl)))
 (.live [6, 7] .ret))
 .skip))
 (.seq (.live [6, 7] (.region 58 [
 ⟨(opMove (some 171) (.tmp 13) 84 "atoi.go:144" #[]).op, none⟩,
 ⟨(opAssign (some 6) (.tmp 171) 84 "atoi.go:144" #[eD 0, eP 0]).op, none⟩,
 ⟨(opAssign (some 7) (.const Value.nilIface) 73 "atoi.go:144" #[eC 1, eP 0, eP 1]).op, none⟩
 ] (by kernel_rfl)))
 (.live [6, 7] .ret)))

noncomputable def f90_b : Sim Tryd.prog :=
 (.seq (.live [0, 1, 2] (.region 0 [
 ⟨(opAssign (some 6) (.const (Value.int IntKind.u64 0)) 84 "atoi.go:47" #[]).op, none⟩,
 ⟨(opAssign (some 7) (.const Value.nilIface) 73 "atoi.go:47" #[eC 0]).op, none⟩
 ] (by kernel_rfl)))
 (.seq (.seq (.live [0, 1, 2, 19] (.region 1 [
 ⟨(opMove (some 18) (.tmp 0) 9 "atoi.go:50" #[]).op, none⟩,
 ⟨(opBinS (some 19) .eql 9 (.tmp 18) (.const (Value.string { data := #[] })) 9 4 "atoi.go:50" #[eD 0]).op, none⟩
 ] (by kernel_rfl)))
 (.cond (.tmp 19)
 (.seq (.live [6, 7] (.region 2 [
 ⟨(opMakeIface (some 20) 99 (.const (Value.int IntKind.i64 2)) (.int .i64) Tryd.underlying99 (by kernel_rfl) 73 "atoi.go:51" #[{ on := 1, ground := (Ground.gcOnly Departure.lateStores) }]).op, none⟩,
 ⟨(opAssign (some 6) (.const (Value.int IntKind.u64 0)) 84 "atoi.go:51" #[{ on := 0, ground := (Ground.textOnly Departure.lateStores) }]).op, none⟩,
 ⟨(opAssign (some 7) (.tmp 20) 73 "atoi.go:51" #[eD 0, eC 1, eP 0, eP 1]).op, none⟩
 ] (by kernel_rfl)))
 (.live [6, 7] .ret))
 .skip))
 (.seq (.live [0, 1, 2, 8] (.region 3 [
 ⟨(opMove (some 21) (.tmp 1) 3 "atoi.go:54" #[]).op, none⟩,
 ⟨(opBin (some 22) .eql 3 (.tmp 21) (.const (Value.int IntKind.i64 0)) 3 4 "atoi.go:54" #[eD 0]).op, none⟩,
 ⟨(opAssign (some 8) (.tmp 22) 4 "atoi.go:54" #[eD 1, eP 0, eP 1]).op, none⟩
 ] (by kernel_rfl)))
 (.seq (.live [0, 1, 2, 8, 9] (.region 4 [
 ⟨(opMove (some 23) (.tmp 0) 9 "atoi.go:56" #[]).op, none⟩,
 ⟨(opAssign (some 9) (.tmp 23) 9 "atoi.go:56" #[eD 0, eP 0]).op, none⟩
 ] (by kernel_rfl)))
 (.seq (.block 0 (.seq (.live [0, 1, 2, 8, 9, 25] (.region 6 [
 ⟨(opMove (some 26) (.tmp 1) 3 "atoi.go:58" #[]).op, none⟩,
 ⟨(opBin (some 27) .leq 3 (.const (Value.int IntKind.i64 2)) (.tmp 26) 3 4 "atoi.go:58" #[eD 0]).op, none⟩,
 ⟨(opMove (some 28) (.tmp 27) 4 "atoi.go:58" #[eD 1]).op, none⟩,
 ⟨(opMove (some 29) (.tmp 1) 3 "atoi.go:58" #[eG 2]).op, (some (2, 28, true))⟩,
 ⟨(opBin (some 30) .leq 3 (.tmp 29) (.const (Value.int IntKind.i64 36)) 3 4 "atoi.go:58" #[eD 3, eG 2]).op, (some (2, 28, true))⟩,
 ⟨(opPick (some 31) (.tmp 28) (.tmp 30) (.const (Value.bool false)) 4 "atoi.go:58" #[eD 2, eD 4]).op, none⟩,
 ⟨(opAssign (some 25) (.tmp 31) 4 "atoi.go:58" #[eD 5, eC 2]).op, none⟩
 ] (by kernel_rfl)))
 (.cond (.tmp 25)
 .skip
 (.seq (.live [0, 2, 8, 9, 32] (.region 7 [
 ⟨(opMove (some 33) (.tmp 1) 3 "atoi.go:61" #[]).op, none⟩,
 ⟨(opBin (some 34) .eql 3 (.tmp 33) (.const (Value.int IntKind.i64 0)) 3 4 "atoi.go:61" #[eD 0]).op, none⟩,
 ⟨(opAssign (some 32) (.tmp 34) 4 "atoi.go:61" #[eD 1]).op, none⟩
 ] (by kernel_rfl)))
 (.cond (.tmp 32)
 (.seq (.live [0, 1, 2, 8, 9] (.region 8 [
 ⟨(opAssign (some 1) (.const (Value.int IntKind.i64 10)) 3 "atoi.go:63" #[]).op, none⟩
 ] (by kernel_rfl)))
 (.seq (.live [0, 1, 2, 8, 9, 37] (.region 9 [
 ⟨(opMove (some 35) (.tmp 0) 9 "atoi.go:64" #[]).op, none⟩,
 ⟨(opIndexStrW (some 36) 9 (.tmp 35) (.const (Value.int IntKind.i64 0)) Tryd.underlying9 5 "atoi.go:64" #[eD 0]).op, none⟩,
 ⟨(opBin (some 37) .eql 5 (.tmp 36) (.const (Value.int IntKind.u8 48)) 5 4 "atoi.go:64" #[eD 1]).op, none⟩
 ] (by kernel_rfl)))
 (.cond (.tmp 37)
 (.block 1 (.seq (.live [0, 2, 8, 9, 40] (.region 12 [
 ⟨(opMove (some 41) (.tmp 0) 9 "atoi.go:66" #[]).op, none⟩,
 ⟨(opLen (some 42) (.tmp 41) 9 .string Tryd.underlying9 3 "atoi.go:66" #[eD 0]).op, none⟩,
 ⟨(opBin (some 43) .geq 3 (.tmp 42) (.const (Value.int IntKind.i64 3)) 3 4 "atoi.go:66" #[eD 1]).op, none⟩,
 ⟨(opMove (some 44) (.tmp 43) 4 "atoi.go:66" #[eD 2]).op, none⟩,
 ⟨(opMove (some 45) (.tmp 0) 9 "atoi.go:66" #[eG 3]).op, (some (3, 44, true))⟩,
 ⟨(opIndexStrW (some 46) 9 (.tmp 45) (.const (Value.int IntKind.i64 1)) Tryd.underlying9 5 "atoi.go:66" #[eD 4, eG 3]).op, (some (3, 44, true))⟩,
 ⟨opCall (f99.orc 0) (some 47) [(.tmp 46)] #[5] 5 "atoi.go:66" #[eD 5, eC 3, eG 3], (some (3, 44, true))⟩,
 ⟨(opBin (some 48) .eql 5 (.tmp 47) (.const (Value.int IntKind.u8 98)) 5 4 "atoi.go:66" #[eD 6, eG 3]).op, (some (3, 44, true))⟩,
 ⟨(opPick (some 49) (.tmp 44) (.tmp 48) (.const (Value.bool false)) 4 "atoi.go:66" #[eD 3, eD 7]).op, none⟩,
 ⟨(opAssign (some 40) (.tmp 49) 4 "atoi.go:66" #[eD 8, eC 6]).op, none⟩
 ] (by kernel_rfl)))
 (.cond (.tmp 40)
 (.seq (.live [0, 1, 2, 8, 9] (.region 13 [
 ⟨(opAssign (some 1) (.const (Value.int IntKind.i64 2)) 3 "atoi.go:67" #[]).op, none⟩
 ] (by kernel_rfl)))
 (.live [0, 1, 2, 8, 9] (.region 14 [
 ⟨(opMove (some 50) (.tmp 0) 9 "atoi.go:68" #[]).op, none⟩,
 ⟨(opSliceStrW (some 51) 9 (.tmp 50) (some (.const (Value.int IntKind.i64 2))) none Tryd.underlying9 9 "atoi.go:68" #[eD 0]).op, none⟩,
 ⟨(opAssign (some 0) (.tmp 51) 9 "atoi.go:68" #[eD 1, eP 0, eP 1]).op, none⟩
 ] (by kernel_rfl))))
 (.seq (.live [0, 2, 8, 9, 52] (.region 15 [
 ⟨(opMove (some 53) (.tmp 0) 9 "atoi.go:69" #[]).op, none⟩,
 ⟨(opLen (some 54) (.tmp 53) 9 .string Tryd.underlying9 3 "atoi.go:69" #[eD 0]).op, none⟩,
 ⟨(opBin (some 55) .geq 3 (.tmp 54) (.const (Value.int IntKind.i64 3)) 3 4 "atoi.go:69" #[eD 1]).op, none⟩,
 ⟨(opMove (some 56) (.tmp 55) 4 "atoi.go:69" #[eD 2]).op, none⟩,
 ⟨(opMove (some 57) (.tmp 0) 9 "atoi.go:69" #[eG 3]).op, (some (3, 56, true))⟩,
 ⟨(opIndexStrW (some 58) 9 (.tmp 57) (.const (Value.int IntKind.i64 1)) Tryd.underlying9 5 "atoi.go:69" #[eD 4, eG 3]).op, (some (3, 56, true))⟩,
 ⟨opCall (f99.orc 0) (some 59) [(.tmp 58)] #[5] 5 "atoi.go:69" #[eD 5, eC 3, eG 3], (some (3, 56, true))⟩,
 ⟨(opBin (some 60) .eql 5 (.tmp 59) (.const (Value.int IntKind.u8 111)) 5 4 "atoi.go:69" #[eD 6, eG 3]).op, (some (3, 56, true))⟩,
 ⟨(opPick (some 61) (.tmp 56) (.tmp 60) (.const (Value.bool false)) 4 "atoi.go:69" #[eD 3, eD 7]).op, none⟩,
 ⟨(opAssign (some 52) (.tmp 61) 4 "atoi.go:69" #[eD 8, eC 6]).op, none⟩
 ] (by kernel_rfl)))
 (.cond (.tmp 52)
 (.seq (.live [0, 1, 2, 8, 9] (.region 16 [
 ⟨(opAssign (some 1) (.const (Value.int IntKind.i64 8)) 3 "atoi.go:70" #[]).op, none⟩
 ] (by kernel_rfl)))
 (.live [0, 1, 2, 8, 9] (.region 17 [
 ⟨(opMove (some 62) (.tmp 0) 9 "atoi.go:71" #[]).op, none⟩,
 ⟨(opSliceStrW (some 63) 9 (.tmp 62) (some (.const (Value.int IntKind.i64 2))) none Tryd.underlying9 9 "atoi.go:71" #[eD 0]).op, none⟩,
 ⟨(opAssign (some 0) (.tmp 63) 9 "atoi.go:71" #[eD 1, eP 0, eP 1]).op, none⟩
 ] (by kernel_rfl))))
 (.seq (.live [0, 2, 8, 9, 64] (.region 18 [
 ⟨(opMove (some 65) (.tmp 0) 9 "atoi.go:72" #[]).op, none⟩,
 ⟨(opLen (some 66) (.tmp 65) 9 .string Tryd.underlying9 3 "atoi.go:72" #[eD 0]).op, none⟩,
 ⟨(opBin (some 67) .geq 3 (.tmp 66) (.const (Value.int IntKind.i64 3)) 3 4 "atoi.go:72" #[eD 1]).op, none⟩,
 ⟨(opMove (some 68) (.tmp 67) 4 "atoi.go:72" #[eD 2]).op, none⟩,
 ⟨(opMove (some 69) (.tmp 0) 9 "atoi.go:72" #[eG 3]).op, (some (3, 68, true))⟩,
 ⟨(opIndexStrW (some 70) 9 (.tmp 69) (.const (Value.int IntKind.i64 1)) Tryd.underlying9 5 "atoi.go:72" #[eD 4, eG 3]).op, (some (3, 68, true))⟩,
 ⟨opCall (f99.orc 0) (some 71) [(.tmp 70)] #[5] 5 "atoi.go:72" #[eD 5, eC 3, eG 3], (some (3, 68, true))⟩,
 ⟨(opBin (some 72) .eql 5 (.tmp 71) (.const (Value.int IntKind.u8 120)) 5 4 "atoi.go:72" #[eD 6, eG 3]).op, (some (3, 68, true))⟩,
 ⟨(opPick (some 73) (.tmp 68) (.tmp 72) (.const (Value.bool false)) 4 "atoi.go:72" #[eD 3, eD 7]).op, none⟩,
 ⟨(opAssign (some 64) (.tmp 73) 4 "atoi.go:72" #[eD 8, eC 6]).op, none⟩
 ] (by kernel_rfl)))
 (.cond (.tmp 64)
 (.seq (.live [0, 1, 2, 8, 9] (.region 19 [
 ⟨(opAssign (some 1) (.const (Value.int IntKind.i64 16)) 3 "atoi.go:73" #[]).op, none⟩
 ] (by kernel_rfl)))
 (.live [0, 1, 2, 8, 9] (.region 20 [
 ⟨(opMove (some 74) (.tmp 0) 9 "atoi.go:74" #[]).op, none⟩,
 ⟨(opSliceStrW (some 75) 9 (.tmp 74) (some (.const (Value.int IntKind.i64 2))) none Tryd.underlying9 9 "atoi.go:74" #[eD 0]).op, none⟩,
 ⟨(opAssign (some 0) (.tmp 75) 9 "atoi.go:74" #[eD 1, eP 0, eP 1]).op, none⟩
 ] (by kernel_rfl))))
 (.seq (.live [0, 1, 2, 8, 9] (.region 10 [
 ⟨(opAssign (some 1) (.const (Value.int IntKind.i64 8)) 3 "atoi.go:76" #[]).op, none⟩
 ] (by kernel_rfl)))
 (.live [0, 1, 2, 8, 9] (.region 11 [
 ⟨(opMove (some 38) (.tmp 0) 9 "atoi.go:77" #[]).op, none⟩,
 ⟨(opSliceStrW (some 39) 9 (.tmp 38) (some (.const (Value.int IntKind.i64 1))) none Tryd.underlying9 9 "atoi.go:77" #[eD 0]).op, none⟩,
 ⟨(opAssign (some 0) (.tmp 39) 9 "atoi.go:77" #[eD 1, eP 0, eP 1]).op, none⟩
 ] (by kernel_rfl)))))))))))
 .skip)))
 (.seq (.live [6, 7] (.region 5 [
 ⟨(opMakeIface (some 24) 99 (.const (Value.int IntKind.i64 3)) (.int .i64) Tryd.underlying99 (by kernel_rfl) 73 "atoi.go:82" #[{ on := 1, ground := (Ground.gcOnly Departure.lateStores) }]).op, none⟩,
 ⟨(opAssign (some 6) (.const (Value.int IntKind.u64 0)) 84 "atoi.go:82" #[{ on := 0, ground := (Ground.textOnly Departure.lateStores) }]).op, none⟩,
 ⟨(opAssign (some 7) (.tmp 24) 73 "atoi.go:82" #[eD 0, eC 1, eP 0, eP 1]).op, none⟩
 ] (by kernel_rfl)))
 (.live [6, 7] .ret)))))))
 (.seq (.seq (.live [0, 1, 2, 8, 9, 77] (.region 21 [
 ⟨(opMove (some 76) (.tmp 2) 3 "atoi.go:85" #[]).op, none⟩,
 ⟨(opBin (some 77) .eql 3 (.tmp 76) (.const (Value.int IntKind.i64 0)) 3 4 "atoi.go:85" #[eD 0]).op, none⟩
 ] (by kernel_rfl)))
 (.cond (.tmp 77)
 (.live [0, 1, 2, 8, 9] (.region 22 [
 ⟨(opAssign (some 2) (.const (Value.int IntKind.i64 64)) 3 "atoi.go:86" #[]).op, none⟩
 ] (by kernel_rfl)))
 (.seq (.live [0, 1, 2, 8, 9, 83] (.region 23 [
 ⟨(opMove (some 78) (.tmp 2) 3 "atoi.go:87" #[]).op, none⟩,
 ⟨(opBin (some 79) .lss 3 (.tmp 78) (.const (Value.int IntKind.i64 0)) 3 4 "atoi.go:87" #[eD 0]).op, none⟩,
 ⟨(opMove (some 80) (.tmp 79) 4 "atoi.go:87" #[eD 1]).op, none⟩,
 ⟨(opMove (some 81) (.tmp 2) 3 "atoi.go:87" #[eG 2]).op, (some (2, 80, false))⟩,
 ⟨(opBin (some 82) .gtr 3 (.tmp 81) (.const (Value.int IntKind.i64 64)) 3 4 "atoi.go:87" #[eD 3, eG 2]).op, (some (2, 80, false))⟩,
 ⟨(opPick (some 83) (.tmp 80) (.const (Value.bool true)) (.tmp 82) 4 "atoi.go:87" #[eD 2, eD 4]).op, none⟩
 ] (by kernel_rfl)))
 (.cond (.tmp 83)
 (.seq (.live [6, 7] (.region 24 [
 ⟨(opMakeIface (some 84) 99 (.const (Value.int IntKind.i64 4)) (.int .i64) Tryd.underlying99 (by kernel_rfl) 73 "atoi.go:88" #[{ on := 1, ground := (Ground.gcOnly Departure.lateStores) }]).op, none⟩,
 ⟨(opAssign (some 6) (.const (Value.int IntKind.u64 0)) 84 "atoi.go:88" #[{ on := 0, ground := (Ground.textOnly Departure.lateStores) }]).op, none⟩,
 ⟨(opAssign (some 7) (.tmp 84) 73 "atoi.go:88" #[eD 0, eC 1, eP 0, eP 1]).op, none⟩
 ] (by kernel_rfl)))
 (.live [6, 7] .ret))
 .skip))))
 (.seq (.live [0, 1, 2, 8, 9] (.region 25 [
 ⟨(opAssign (some 10) (.const (Value.int IntKind.u64 0)) 84 "atoi.go:94" #[]).op, none⟩
 ] (by kernel_rfl)))
 (.seq (.seq (.live [0, 1, 2, 8, 9, 85] (.region 26 [
 ⟨(opMove (some 85) (.tmp 1) 3 "atoi.go:95" #[]).op, none⟩
 ] (by kernel_rfl)))
 (.block 2 (.seq (.live [0, 1, 2, 8, 9, 85, 90] (.region 28 [
 ⟨(opBin (some 91) .eql 3 (.tmp 85) (.const (Value.int IntKind.i64 10)) 3 4 "atoi.go:96" #[]).op, none⟩,
 ⟨(opAssign (some 90) (.tmp 91) 4 "atoi.go:96" #[eD 0]).op, none⟩
 ] (by kernel_rfl)))
 (.cond (.tmp 90)
 (.live [0, 1, 2, 8, 9, 10] (.region 29 [
 ⟨(opAssign (some 10) (.const (Value.int IntKind.u64 1844674407370955162)) 84 "atoi.go:97" #[]).op, none⟩
 ] (by kernel_rfl)))
 (.seq (.live [0, 1, 2, 8, 9, 92] (.region 30 [
 ⟨(opBin (some 93) .eql 3 (.tmp 85) (.const (Value.int IntKind.i64 16)) 3 4 "atoi.go:98" #[]).op, none⟩,
 ⟨(opAssign (some 92) (.tmp 93) 4 "atoi.go:98" #[eD 0]).op, none⟩
 ] (by kernel_rfl)))
 (.cond (.tmp 92)
 (.live [0, 1, 2, 8, 9, 10] (.region 31 [
 ⟨(opAssign (some 10) (.const (Value.int IntKind.u64 1152921504606846976)) 84 "atoi.go:99" #[]).op, none⟩
 ] (by kernel_rfl)))
 (.live [0, 1, 2, 8, 9, 10] (.region 27 [
 ⟨(opMove (some 86) (.tmp 1) 3 "atoi.go:101" #[]).op, none⟩,
 ⟨(opConvInt (some 87) 3 84 (.tmp 86) (.int .i64) Tryd.underlying3 .u64 Tryd.underlying84 84 "atoi.go:101" #[eD 0]).op, none⟩,
 ⟨(opBin (some 88) .quo 84 (.const (Value.int IntKind.u64 18446744073709551615)) (.tmp 87) 84 84 "atoi.go:101" #[eD 1]).op, none⟩,
 ⟨(opBin (some 89) .add 84 (.tmp 88) (.const (Value.int IntKind.u64 1)) 84 84 "atoi.go:101" #[eD 2]).op, none⟩,
 ⟨(opAssign (some 10) (.tmp 89) 84 "atoi.go:101" #[eD 3, eP 0, eP 1, eP 2, eP 3]).op, none⟩
 ] (by kernel_rfl)))))))))
 (.seq (.live [0, 1, 8, 9, 10, 11] (.region 32 [
 ⟨(opMove (some 94) (.tmp 2) 3 "atoi.go:104" #[]).op, none⟩,
 ⟨(opConvInt (some 95) 3 80 (.tmp 94) (.int .i64) Tryd.underlying3 .u64 Tryd.underlying80 80 "atoi.go:104" #[eD 0]).op, none⟩,
 ⟨(opBin (some 96) .shl 84 (.const (Value.int IntKind.u64 1)) (.tmp 95) 80 84 "atoi.go:104" #[eD 1]).op, none⟩,
 ⟨(opBin (some 97) .sub 84 (.tmp 96) (.const (Value.int IntKind.u64 1)) 84 84 "atoi.go:104" #[eD 2]).op, none⟩,
 ⟨(opAssign (some 11) (.tmp 97) 84 "atoi.go:104" #[eD 3, eP 0, eP 1, eP 2, eP 3]).op, none⟩
 ] (by kernel_rfl)))
 (.seq (.live [0, 1, 8, 9, 10, 11, 12] (.region 33 [
 ⟨(opAssign (some 12) (.const (Value.bool false)) 4 "atoi.go:106" #[]).op, none⟩
 ] (by kernel_rfl)))
 (.seq (.live [0, 1, 8, 9, 10, 11, 12, 13] (.region 34 [
 ⟨(opAssign (some 13) (.const (Value.int IntKind.u64 0)) 84 "atoi.go:107" #[]).op, none⟩
 ] (by kernel_rfl)))
 (.seq (.seq (.live [1, 8, 9, 10, 11, 12, 13, 99, 100, 101] (.region 35 [
 ⟨(opMove (some 98) (.tmp 0) 9 "atoi.go:108" #[]).op, none⟩,
 ⟨(opStrBytes (some 99) 9 46 (.tmp 98) 5 Tryd.underlying9 Tryd.underlying46 Tryd.underlying5 46 "atoi.go:108" #[eD 0]).op, none⟩,
 ⟨(opLen (some 100) (.tmp 99) 46 (.slice 5) Tryd.underlying46 3 "atoi.go:108" #[eD 1]).op, none⟩,
 ⟨(opMove (some 101) (.const (Value.int IntKind.i64 0)) 3 "atoi.go:108" #[]).op, none⟩
 ] (by kernel_rfl)))
 (.block 3 (.loop [1, 8, 9, 10, 11, 12, 13, 99, 100, 101] f90_l0)))
 f90_r0))))))))))))

noncomputable def f90 : Fun Tryd.prog where
 id := 90
 fn := Tryd.f90
 hf := Tryd.func90
 hname := by kernel_rfl
 body := f90_b
 hbody := by kernel_rfl
 res := [rTmp 6, rTmp 7]
 hres := by kernel_rfl
 n := 172
 hn := by kernel_rfl

end Go.Proofs.YtcfedmheblbdnaaDoor.V

/- What the functions' runs come to; the right sides were printed by a tool, Lean checks them. -/
set_option linter.unusedVariables false
set_option maxRecDepth 100000
namespace Go.Proofs.YtcfedmheblbdnaaDoor.V
open Go Go.V Go.RowKit

theorem pu_run (F : Nat) (s : ByteArray) (st : St) :
 (f90.run F [.str s, .int .i64 10, .int .i64 0] st : Ans) =
 branch (AV.bool (s.toList == []))
 (some (Fin.ret (AV.tup [AV.int IntKind.u64 (0 : Int), AV.ifc 99 (AV.int IntKind.i64 (2 : Int))]), st))
 (loopRun (f90_l0.run F)
 [1, 8, 9, 10, 11, 12, 13, 99, 100,
 101]
 (Cont.block 3 (Cont.then (f90_r0.run F (f90.leaveK Fun.done)) (f90.leaveK Fun.done))) F
 (Env.mk 172
 [(1, AV.int IntKind.i64 (10 : Int)), (8, AV.bool false), (9, AV.str s),
 (10, AV.int IntKind.u64 (1844674407370955162 : Int)),
 (11, AV.int IntKind.u64 (18446744073709551615 : Int)), (12, AV.bool false),
 (13, AV.int IntKind.u64 (0 : Int)), (99, AV.sl 1 false (rowsOfStr s)),
 (100, AV.int IntKind.i64 (↑(rowsOfStr s).length : Int)), (101, AV.int IntKind.i64 (0 : Int))])
 st) := by kernel_rfl

theorem pu_round (F m : Nat) (K : Cont) (s : AV) (n i : Int) (l : List (List AV)) (st : St) :
 (loopRun (f90_l0.run F) [1, 8, 9, 10, 11, 12, 13, 99, 100, 101] K m.succ (Env.mk 172 [(1, .int .i64 10), (8, .bool false), (9, s), (10, .int .u64 1844674407370955162), (11, .int .u64 18446744073709551615), (12, .bool false), (13, .int .u64 n), (99, .sl 1 false l), (100, .int .i64 (l.length : Int)), (101, .int .i64 i)]) st : Ans) =
 branch (AV.bool (decide (i < (↑l.length : Int))))
 (branch (AV.bool (inR l i))
 (branch (AV.bool ((LD.one (LT.int IntKind.u8)).is (V.rowAt l i)))
 (branch (AV.bool (hdI (V.rowAt l i) == (95 : Int)))
 (branch (AV.bool (decide ((48 : Int) ≤ hdI (V.rowAt l i))))
 (branch (AV.bool (decide (hdI (V.rowAt l i) ≤ (57 : Int))))
 (branch (AV.bool (decide (IntKind.u8.wrap (hdI (V.rowAt l i) - (48 : Int)) ≥ (10 : Int))))
 (K AX.ret
 (Env.mk 172
 [(6, AV.int IntKind.u64 (0 : Int)),
 (7, AV.ifc 99 (AV.int IntKind.i64 (2 : Int)))])
 st)
 (branch (AV.bool (decide (n ≥ (1844674407370955162 : Int))))
 (K AX.ret
 (Env.mk 172
 [(6, AV.int IntKind.u64 (18446744073709551615 : Int)),
 (7, AV.ifc 99 (AV.int IntKind.i64 (1 : Int)))])
 st)
 (branch
 (AV.bool
 (decide
 (IntKind.u64.wrap
 (IntKind.u64.wrap (n * (10 : Int)) +
 IntKind.u64.wrap (IntKind.u8.wrap (hdI (V.rowAt l i) - (48 : Int)))) <
 IntKind.u64.wrap (n * (10 : Int)))))
 (K AX.ret
 (Env.mk 172
 [(6, AV.int IntKind.u64 (18446744073709551615 : Int)),
 (7, AV.ifc 99 (AV.int IntKind.i64 (1 : Int)))])
 st)
 (branch
 (AV.bool
 (decide
 (IntKind.u64.wrap
 (IntKind.u64.wrap (n * (10 : Int)) +
 IntKind.u64.wrap (IntKind.u8.wrap (hdI (V.rowAt l i) - (48 : Int)))) >
 (18446744073709551615 : Int))))
 (K AX.ret
 (Env.mk 172
 [(6, AV.int IntKind.u64 (18446744073709551615 : Int)),
 (7, AV.ifc 99 (AV.int IntKind.i64 (1 : Int)))])
 st)
 (loopRun (f90_l0.run F)
 [1, 8, 9, 10, 11, 12, 13, 99,
 100, 101]
 K m
 (Env.mk 172
 [(1, AV.int IntKind.i64 (10 : Int)), (8, AV.bool false), (9, s),
 (10, AV.int IntKind.u64 (1844674407370955162 : Int)),
 (11, AV.int IntKind.u64 (18446744073709551615 : Int)), (12, AV.bool false),
 (13,
 AV.int IntKind.u64
 (IntKind.u64.wrap
 (IntKind.u64.wrap (n * (10 : Int)) +
 IntKind.u64.wrap (IntKind.u8.wrap (hdI (V.rowAt l i) - (48 : Int)))))),
 (99, AV.sl 1 false l), (100, AV.int IntKind.i64 (↑l.length : Int)),
 (101, AV.int IntKind.i64 (IntKind.i64.wrap (i + (1 : Int))))])
 st)))))
 (branch (AV.bool (decide ((97 : Int) ≤ bitsI BinOp.or IntKind.u8 (hdI (V.rowAt l i)) (32 : Int))))
 (branch (AV.bool (decide (bitsI BinOp.or IntKind.u8 (hdI (V.rowAt l i)) (32 : Int) ≤ (122 : Int))))
 (branch
 (AV.bool
 (decide
 (IntKind.u8.wrap
 (IntKind.u8.wrap (bitsI BinOp.or IntKind.u8 (hdI (V.rowAt l i)) (32 : Int) - (97 : Int)) +
 (10 : Int)) ≥
 (10 : Int))))
 (K AX.ret
 (Env.mk 172
 [(6, AV.int IntKind.u64 (0 : Int)),
 (7, AV.ifc 99 (AV.int IntKind.i64 (2 : Int)))])
 st)
 (branch (AV.bool (decide (n ≥ (1844674407370955162 : Int))))
 (K AX.ret
 (Env.mk 172
 [(6, AV.int IntKind.u64 (18446744073709551615 : Int)),
 (7, AV.ifc 99 (AV.int IntKind.i64 (1 : Int)))])
 st)
 (branch
 (AV.bool
 (decide
 (IntKind.u64.wrap
 (IntKind.u64.wrap (n * (10 : Int)) +
 IntKind.u64.wrap
 (IntKind.u8.wrap
 (IntKind.u8.wrap
 (bitsI BinOp.or IntKind.u8 (hdI (V.rowAt l i)) (32 : Int) - (97 : Int)) +
 (10 : Int)))) <
 IntKind.u64.wrap (n * (10 : Int)))))
 (K AX.ret
 (Env.mk 172
 [(6, AV.int IntKind.u64 (18446744073709551615 : Int)),
 (7, AV.ifc 99 (AV.int IntKind.i64 (1 : Int)))])
 st)
 (branch
 (AV.bool
 (decide
 (IntKind.u64.wrap
 (IntKind.u64.wrap (n * (10 : Int)) +
 IntKind.u64.wrap
 (IntKind.u8.wrap
 (IntKind.u8.wrap
 (bitsI BinOp.or IntKind.u8 (hdI (V.rowAt l i)) (32 : Int) - (97 : Int)) +
 (10 : Int)))) >
 (18446744073709551615 : Int))))
 (K AX.ret
 (Env.mk 172
 [(6, AV.int IntKind.u64 (18446744073709551615 : Int)),
 (7, AV.ifc 99 (AV.int IntKind.i64 (1 : Int)))])
 st)
 (loopRun (f90_l0.run F)
 [1, 8, 9, 10, 11, 12, 13, 99,
 100, 101]
 K m
 (Env.mk 172
 [(1, AV.int IntKind.i64 (10 : Int)), (8, AV.bool false), (9, s),
 (10, AV.int IntKind.u64 (1844674407370955162 : Int)),
 (11, AV.int IntKind.u64 (18446744073709551615 : Int)),
 (12, AV.bool false),
 (13,
 AV.int IntKind.u64
 (IntKind.u64.wrap
 (IntKind.u64.wrap (n * (10 : Int)) +
 IntKind.u64.wrap
 (IntKind.u8.wrap
 (IntKind.u8.wrap
 (bitsI BinOp.or IntKind.u8 (hdI (V.rowAt l i)) (32 : Int) - (97 : Int)) +
 (10 : Int)))))),
 (99, AV.sl 1 false l),
 (100, AV.int IntKind.i64 (↑l.length : Int)),
 (101, AV.int IntKind.i64 (IntKind.i64.wrap (i + (1 : Int))))])
 st)))))
 (K AX.ret
 (Env.mk 172
 [(6, AV.int IntKind.u64 (0 : Int)),
 (7, AV.ifc 99 (AV.int IntKind.i64 (2 : Int)))])
 st))
 (K AX.ret
 (Env.mk 172
 [(6, AV.int IntKind.u64 (0 : Int)),
 (7, AV.ifc 99 (AV.int IntKind.i64 (2 : Int)))])
 st)))
 (branch (AV.bool (decide ((97 : Int) ≤ bitsI BinOp.or IntKind.u8 (hdI (V.rowAt l i)) (32 : Int))))
 (branch (AV.bool (decide (bitsI BinOp.or IntKind.u8 (hdI (V.rowAt l i)) (32 : Int) ≤ (122 : Int))))
 (branch
 (AV.bool
 (decide
 (IntKind.u8.wrap
 (IntKind.u8.wrap (bitsI BinOp.or IntKind.u8 (hdI (V.rowAt l i)) (32 : Int) - (97 : Int)) +
 (10 : Int)) ≥
 (10 : Int))))
 (K AX.ret
 (Env.mk 172
 [(6, AV.int IntKind.u64 (0 : Int)),
 (7, AV.ifc 99 (AV.int IntKind.i64 (2 : Int)))])
 st)
 (branch (AV.bool (decide (n ≥ (1844674407370955162 : Int))))
 (K AX.ret
 (Env.mk 172
 [(6, AV.int IntKind.u64 (18446744073709551615 : Int)),
 (7, AV.ifc 99 (AV.int IntKind.i64 (1 : Int)))])
 st)
 (branch
 (AV.bool
 (decide
 (IntKind.u64.wrap
 (IntKind.u64.wrap (n * (10 : Int)) +
 IntKind.u64.wrap
 (IntKind.u8.wrap
 (IntKind.u8.wrap
 (bitsI BinOp.or IntKind.u8 (hdI (V.rowAt l i)) (32 : Int) - (97 : Int)) +
 (10 : Int)))) <
 IntKind.u64.wrap (n * (10 : Int)))))
 (K AX.ret
 (Env.mk 172
 [(6, AV.int IntKind.u64 (18446744073709551615 : Int)),
 (7, AV.ifc 99 (AV.int IntKind.i64 (1 : Int)))])
 st)
 (branch
 (AV.bool
 (decide
 (IntKind.u64.wrap
 (IntKind.u64.wrap (n * (10 : Int)) +
 IntKind.u64.wrap
 (IntKind.u8.wrap
 (IntKind.u8.wrap
 (bitsI BinOp.or IntKind.u8 (hdI (V.rowAt l i)) (32 : Int) - (97 : Int)) +
 (10 : Int)))) >
 (18446744073709551615 : Int))))
 (K AX.ret
 (Env.mk 172
 [(6, AV.int IntKind.u64 (18446744073709551615 : Int)),
 (7, AV.ifc 99 (AV.int IntKind.i64 (1 : Int)))])
 st)
 (loopRun (f90_l0.run F)
 [1, 8, 9, 10, 11, 12, 13, 99,
 100, 101]
 K m
 (Env.mk 172
 [(1, AV.int IntKind.i64 (10 : Int)), (8, AV.bool false), (9, s),
 (10, AV.int IntKind.u64 (1844674407370955162 : Int)),
 (11, AV.int IntKind.u64 (18446744073709551615 : Int)), (12, AV.bool false),
 (13,
 AV.int IntKind.u64
 (IntKind.u64.wrap
 (IntKind.u64.wrap (n * (10 : Int)) +
 IntKind.u64.wrap
 (IntKind.u8.wrap
 (IntKind.u8.wrap
 (bitsI BinOp.or IntKind.u8 (hdI (V.rowAt l i)) (32 : Int) - (97 : Int)) +
 (10 : Int)))))),
 (99, AV.sl 1 false l), (100, AV.int IntKind.i64 (↑l.length : Int)),
 (101, AV.int IntKind.i64 (IntKind.i64.wrap (i + (1 : Int))))])
 st)))))
 (K AX.ret
 (Env.mk 172
 [(6, AV.int IntKind.u64 (0 : Int)),
 (7, AV.ifc 99 (AV.int IntKind.i64 (2 : Int)))])
 st))
 (K AX.ret
 (Env.mk 172
 [(6, AV.int IntKind.u64 (0 : Int)),
 (7, AV.ifc 99 (AV.int IntKind.i64 (2 : Int)))])
 st)))
 (branch (AV.bool (decide ((48 : Int) ≤ hdI (V.rowAt l i))))
 (branch (AV.bool (decide (hdI (V.rowAt l i) ≤ (57 : Int))))
 (branch (AV.bool (decide (IntKind.u8.wrap (hdI (V.rowAt l i) - (48 : Int)) ≥ (10 : Int))))
 (K AX.ret
 (Env.mk 172
 [(6, AV.int IntKind.u64 (0 : Int)),
 (7, AV.ifc 99 (AV.int IntKind.i64 (2 : Int)))])
 st)
 (branch (AV.bool (decide (n ≥ (1844674407370955162 : Int))))
 (K AX.ret
 (Env.mk 172
 [(6, AV.int IntKind.u64 (18446744073709551615 : Int)),
 (7, AV.ifc 99 (AV.int IntKind.i64 (1 : Int)))])
 st)
 (branch
 (AV.bool
 (decide
 (IntKind.u64.wrap
 (IntKind.u64.wrap (n * (10 : Int)) +
 IntKind.u64.wrap (IntKind.u8.wrap (hdI (V.rowAt l i) - (48 : Int)))) <
 IntKind.u64.wrap (n * (10 : Int)))))
 (K AX.ret
 (Env.mk 172
 [(6, AV.int IntKind.u64 (18446744073709551615 : Int)),
 (7, AV.ifc 99 (AV.int IntKind.i64 (1 : Int)))])
 st)
 (branch
 (AV.bool
 (decide
 (IntKind.u64.wrap
 (IntKind.u64.wrap (n * (10 : Int)) +
 IntKind.u64.wrap (IntKind.u8.wrap (hdI (V.rowAt l i) - (48 : Int)))) >
 (18446744073709551615 : Int))))
 (K AX.ret
 (Env.mk 172
 [(6, AV.int IntKind.u64 (18446744073709551615 : Int)),
 (7, AV.ifc 99 (AV.int IntKind.i64 (1 : Int)))])
 st)
 (loopRun (f90_l0.run F)
 [1, 8, 9, 10, 11, 12, 13, 99,
 100, 101]
 K m
 (Env.mk 172
 [(1, AV.int IntKind.i64 (10 : Int)), (8, AV.bool false), (9, s),
 (10, AV.int IntKind.u64 (1844674407370955162 : Int)),
 (11, AV.int IntKind.u64 (18446744073709551615 : Int)), (12, AV.bool false),
 (13,
 AV.int IntKind.u64
 (IntKind.u64.wrap
 (IntKind.u64.wrap (n * (10 : Int)) +
 IntKind.u64.wrap (IntKind.u8.wrap (hdI (V.rowAt l i) - (48 : Int)))))),
 (99, AV.sl 1 false l), (100, AV.int IntKind.i64 (↑l.length : Int)),
 (101, AV.int IntKind.i64 (IntKind.i64.wrap (i + (1 : Int))))])
 st)))))
 (branch (AV.bool (decide ((97 : Int) ≤ bitsI BinOp.or IntKind.u8 (hdI (V.rowAt l i)) (32 : Int))))
 (branch (AV.bool (decide (bitsI BinOp.or IntKind.u8 (hdI (V.rowAt l i)) (32 : Int) ≤ (122 : Int))))
 (branch
 (AV.bool
 (decide
 (IntKind.u8.wrap
 (IntKind.u8.wrap (bitsI BinOp.or IntKind.u8 (hdI (V.rowAt l i)) (32 : Int) - (97 : Int)) +
 (10 : Int)) ≥
 (10 : Int))))
 (K AX.ret
 (Env.mk 172
 [(6, AV.int IntKind.u64 (0 : Int)),
 (7, AV.ifc 99 (AV.int IntKind.i64 (2 : Int)))])
 st)
 (branch (AV.bool (decide (n ≥ (1844674407370955162 : Int))))
 (K AX.ret
 (Env.mk 172
 [(6, AV.int IntKind.u64 (18446744073709551615 : Int)),
 (7, AV.ifc 99 (AV.int IntKind.i64 (1 : Int)))])
 st)
 (branch
 (AV.bool
 (decide
 (IntKind.u64.wrap
 (IntKind.u64.wrap (n * (10 : Int)) +
 IntKind.u64.wrap
 (IntKind.u8.wrap
 (IntKind.u8.wrap
 (bitsI BinOp.or IntKind.u8 (hdI (V.rowAt l i)) (32 : Int) - (97 : Int)) +
 (10 : Int)))) <
 IntKind.u64.wrap (n * (10 : Int)))))
 (K AX.ret
 (Env.mk 172
 [(6, AV.int IntKind.u64 (18446744073709551615 : Int)),
 (7, AV.ifc 99 (AV.int IntKind.i64 (1 : Int)))])
 st)
 (branch
 (AV.bool
 (decide
 (IntKind.u64.wrap
 (IntKind.u64.wrap (n * (10 : Int)) +
 IntKind.u64.wrap
 (IntKind.u8.wrap
 (IntKind.u8.wrap
 (bitsI BinOp.or IntKind.u8 (hdI (V.rowAt l i)) (32 : Int) - (97 : Int)) +
 (10 : Int)))) >
 (18446744073709551615 : Int))))
 (K AX.ret
 (Env.mk 172
 [(6, AV.int IntKind.u64 (18446744073709551615 : Int)),
 (7, AV.ifc 99 (AV.int IntKind.i64 (1 : Int)))])
 st)
 (loopRun (f90_l0.run F)
 [1, 8, 9, 10, 11, 12, 13, 99,
 100, 101]
 K m
 (Env.mk 172
 [(1, AV.int IntKind.i64 (10 : Int)), (8, AV.bool false), (9, s),
 (10, AV.int IntKind.u64 (1844674407370955162 : Int)),
 (11, AV.int IntKind.u64 (18446744073709551615 : Int)),
 (12, AV.bool false),
 (13,
 AV.int IntKind.u64
 (IntKind.u64.wrap
 (IntKind.u64.wrap (n * (10 : Int)) +
 IntKind.u64.wrap
 (IntKind.u8.wrap
 (IntKind.u8.wrap
 (bitsI BinOp.or IntKind.u8 (hdI (V.rowAt l i)) (32 : Int) - (97 : Int)) +
 (10 : Int)))))),
 (99, AV.sl 1 false l),
 (100, AV.int IntKind.i64 (↑l.length : Int)),
 (101, AV.int IntKind.i64 (IntKind.i64.wrap (i + (1 : Int))))])
 st)))))
 (K AX.ret
 (Env.mk 172
 [(6, AV.int IntKind.u64 (0 : Int)),
 (7, AV.ifc 99 (AV.int IntKind.i64 (2 : Int)))])
 st))
 (K AX.ret
 (Env.mk 172
 [(6, AV.int IntKind.u64 (0 : Int)),
 (7, AV.ifc 99 (AV.int IntKind.i64 (2 : Int)))])
 st)))
 (branch (AV.bool (decide ((97 : Int) ≤ bitsI BinOp.or IntKind.u8 (hdI (V.rowAt l i)) (32 : Int))))
 (branch (AV.bool (decide (bitsI BinOp.or IntKind.u8 (hdI (V.rowAt l i)) (32 : Int) ≤ (122 : Int))))
 (branch
 (AV.bool
 (decide
 (IntKind.u8.wrap
 (IntKind.u8.wrap (bitsI BinOp.or IntKind.u8 (hdI (V.rowAt l i)) (32 : Int) - (97 : Int)) +
 (10 : Int)) ≥
 (10 : Int))))
 (K AX.ret
 (Env.mk 172
 [(6, AV.int IntKind.u64 (0 : Int)),
 (7, AV.ifc 99 (AV.int IntKind.i64 (2 : Int)))])
 st)
 (branch (AV.bool (decide (n ≥ (1844674407370955162 : Int))))
 (K AX.ret
 (Env.mk 172
 [(6, AV.int IntKind.u64 (18446744073709551615 : Int)),
 (7, AV.ifc 99 (AV.int IntKind.i64 (1 : Int)))])
 st)
 (branch
 (AV.bool
 (decide
 (IntKind.u64.wrap
 (IntKind.u64.wrap (n * (10 : Int)) +
 IntKind.u64.wrap
 (IntKind.u8.wrap
 (IntKind.u8.wrap
 (bitsI BinOp.or IntKind.u8 (hdI (V.rowAt l i)) (32 : Int) - (97 : Int)) +
 (10 : Int)))) <
 IntKind.u64.wrap (n * (10 : Int)))))
 (K AX.ret
 (Env.mk 172
 [(6, AV.int IntKind.u64 (18446744073709551615 : Int)),
 (7, AV.ifc 99 (AV.int IntKind.i64 (1 : Int)))])
 st)
 (branch
 (AV.bool
 (decide
 (IntKind.u64.wrap
 (IntKind.u64.wrap (n * (10 : Int)) +
 IntKind.u64.wrap
 (IntKind.u8.wrap
 (IntKind.u8.wrap
 (bitsI BinOp.or IntKind.u8 (hdI (V.rowAt l i)) (32 : Int) - (97 : Int)) +
 (10 : Int)))) >
 (18446744073709551615 : Int))))
 (K AX.ret
 (Env.mk 172
 [(6, AV.int IntKind.u64 (18446744073709551615 : Int)),
 (7, AV.ifc 99 (AV.int IntKind.i64 (1 : Int)))])
 st)
 (loopRun (f90_l0.run F)
 [1, 8, 9, 10, 11, 12, 13, 99,
 100, 101]
 K m
 (Env.mk 172
 [(1, AV.int IntKind.i64 (10 : Int)), (8, AV.bool false), (9, s),
 (10, AV.int IntKind.u64 (1844674407370955162 : Int)),
 (11, AV.int IntKind.u64 (18446744073709551615 : Int)), (12, AV.bool false),
 (13,
 AV.int IntKind.u64
 (IntKind.u64.wrap
 (IntKind.u64.wrap (n * (10 : Int)) +
 IntKind.u64.wrap
 (IntKind.u8.wrap
 (IntKind.u8.wrap
 (bitsI BinOp.or IntKind.u8 (hdI (V.rowAt l i)) (32 : Int) - (97 : Int)) +
 (10 : Int)))))),
 (99, AV.sl 1 false l), (100, AV.int IntKind.i64 (↑l.length : Int)),
 (101, AV.int IntKind.i64 (IntKind.i64.wrap (i + (1 : Int))))])
 st)))))
 (K AX.ret
 (Env.mk 172
 [(6, AV.int IntKind.u64 (0 : Int)),
 (7, AV.ifc 99 (AV.int IntKind.i64 (2 : Int)))])
 st))
 (K AX.ret
 (Env.mk 172
 [(6, AV.int IntKind.u64 (0 : Int)),
 (7, AV.ifc 99 (AV.int IntKind.i64 (2 : Int)))])
 st))))
 none)
 none)
 (K (AX.exit 3)
 (Env.mk 172 [(9, s), (12, AV.bool false), (13, AV.int IntKind.u64 n)]) st) := by kernel_rfl

theorem pu_out (F : Nat) (n : Int) (s : AV) (st : St) :
 ((Cont.block 3 (Cont.then (f90_r0.run F (f90.leaveK Fun.done)) (f90.leaveK Fun.done))) (.exit 3) (Env.mk 172 [(9, s), (12, .bool false), (13, .int .u64 n)]) st : Ans) =
 some (Fin.ret (AV.tup [AV.int IntKind.u64 n, AV.nilif]), st) := by kernel_rfl

theorem pu_ret (F : Nat) (u e : AV) (st : St) :
 ((Cont.block 3 (Cont.then (f90_r0.run F (f90.leaveK Fun.done)) (f90.leaveK Fun.done))) .ret (Env.mk 172 [(6, u), (7, e)]) st : Ans) =
 some (Fin.ret (AV.tup [u, e]), st) := by kernel_rfl

end Go.Proofs.YtcfedmheblbdnaaDoor.V

/- Values: ParseUint to the base ten, as a callee. -/
set_option linter.unusedVariables false
namespace Go.Proofs.YtcfedmheblbdnaaDoor.V
open Go Go.V Go.RowKit

/-- A number of digits: its value, and what was wrong (0: nothing, 1: too great, 2: no digit). -/
def puF : List Nat → Nat → Nat × Nat
  | [], n => (n, 0)
  | c :: r, n => if 48 ≤ c ∧ c ≤ 57 then if 1844674407370955162 ≤ n ∨ 18446744073709551616 ≤ n * 10 + (c - 48) then (18446744073709551615, 1) else puF r (n * 10 + (c - 48)) else (0, 2)
def errA (e : Nat) : AV := if e = 0 then .nilif else .ifc 99 (.int .i64 (e : Int))
def puA (x : Nat × Nat) : AV := .tup [.int .u64 (x.1 : Int), errA x.2]
noncomputable def puK (F : Nat) : Cont := Cont.block 3 (Cont.then (f90_r0.run F (f90.leaveK Fun.done)) (f90.leaveK Fun.done))
theorem pu_all (F : Nat) (s : AV) (L : List Nat) (hb : ∀ b ∈ L, b < 256) (hl : L.length ≤ 100000) (st : St) : ∀ (k i m n : Nat), i + k = L.length → k < m → n < 18446744073709551616 →
    loopRun (f90_l0.run F) [1, 8, 9, 10, 11, 12, 13, 99, 100, 101] (puK F) m (Env.mk 172 [(1, .int .i64 10), (8, .bool false), (9, s), (10, .int .u64 1844674407370955162), (11, .int .u64 18446744073709551615), (12, .bool false), (13, .int .u64 (n : Int)), (99, .sl 1 false (bR L)), (100, .int .i64 ((bR L).length : Int)), (101, .int .i64 (i : Int))]) st
      = some (.ret (puA (puF (L.drop i) n)), st)
  | k, i, 0, n, _, h, _ => by omega
  | 0, i, m + 1, n, h, _, hn => by
    have hl2 := bR_length L
    rw [show m + 1 = m.succ from rfl, pu_round, branch_not (decide_eq_false (by omega)), puK, pu_out, List.drop_eq_nil_of_le (by omega)]
    rfl
  | k + 1, i, m + 1, n, h, hm, hn => by
    have hl2 := bR_length L
    have hi : i < (bR L).length := by omega
    have hiL : i < L.length := by omega
    have hrow : (bR L)[i] = [.int .u8 ((L[i] : Nat) : Int)] := by simp [bR]
    have h256 := hb _ (List.getElem_mem hiL)
    have hw : IntKind.i64.wrap ((i : Int) + 1) = ((i + 1 : Nat) : Int) := by rw [wrapS (by omega) (by omega)]; omega
    have ih := fun n' hn' => pu_all F s L hb hl st k (i + 1) m n' (by omega) (by omega) hn'
    rw [show m + 1 = m.succ from rfl, pu_round, branch_of (decide_eq_true (by omega)), branch_of (inR_nat hi), rowAt_nat hi, hrow, branch_of (show (LD.one (LT.int IntKind.u8)).is [AV.int IntKind.u8 ((L[i] : Nat) : Int)] = true from rfl), hw, List.drop_eq_getElem_cons hiL, puF]
    rw [show hdI [AV.int IntKind.u8 ((L[i] : Nat) : Int)] = ((L[i] : Nat) : Int) from rfl]
    generalize L[i] = c at *
    by_cases h95 : c = 95
    · subst h95
      rw [if_neg (by omega), branch_of (by rfl), branch_of (decide_eq_true (by omega)), branch_not (decide_eq_false (by omega)), branch_of (by rfl), branch_not (by rfl), puK, pu_ret]; rfl
    · rw [branch_not (show (((c : Nat) : Int) == 95) = false by rw [beq_eq_false_iff_ne]; omega)]
      have syn : ∀ (A B C : Ans), C = some (.ret (puA (0, 2)), st) → branch (AV.bool (decide ((97 : Int) ≤ bitsI BinOp.or IntKind.u8 (c : Int) (32 : Int)))) (branch (AV.bool (decide (bitsI BinOp.or IntKind.u8 (c : Int) (32 : Int) ≤ (122 : Int)))) (branch (AV.bool (decide (IntKind.u8.wrap (IntKind.u8.wrap (bitsI BinOp.or IntKind.u8 (c : Int) (32 : Int) - (97 : Int)) + (10 : Int)) ≥ (10 : Int)))) C A) C) C = some (.ret (puA (0, 2)), st) := by
        intro A B C hC
        generalize bitsI BinOp.or IntKind.u8 (c : Int) (32 : Int) = q
        by_cases q1 : 97 ≤ q
        · rw [branch_of (decide_eq_true q1)]
          by_cases q2 : q ≤ 122
          · obtain ⟨x, rfl⟩ : ∃ x : Nat, q = x := Int.eq_ofNat_of_zero_le (by omega)
            rw [branch_of (decide_eq_true q2), show (x : Int) - 97 = ((x - 97 : Nat) : Int) by omega, w8 (by omega), show ((x - 97 : Nat) : Int) + 10 = ((x - 97 + 10 : Nat) : Int) by omega, w8 (by omega), branch_of (decide_eq_true (by omega))]
            exact hC
          · rw [branch_not (decide_eq_false q2)]; exact hC
        · rw [branch_not (decide_eq_false q1)]; exact hC
      have hC : puK F .ret (Env.mk 172 [(6, AV.int IntKind.u64 (0 : Int)), (7, AV.ifc 99 (AV.int IntKind.i64 (2 : Int)))]) st = some (.ret (puA (0, 2)), st) := by rw [puK, pu_ret]; rfl
      have hR : puK F .ret (Env.mk 172 [(6, AV.int IntKind.u64 (18446744073709551615 : Int)), (7, AV.ifc 99 (AV.int IntKind.i64 (1 : Int)))]) st = some (.ret (puA (18446744073709551615, 1)), st) := by rw [puK, pu_ret]; rfl
      by_cases d1 : 48 ≤ c
      · rw [branch_of (decide_eq_true (by omega))]
        by_cases d2 : c ≤ 57
        · have e1 : IntKind.u8.wrap ((c : Int) - 48) = ((c - 48 : Nat) : Int) := by rw [show (c : Int) - 48 = ((c - 48 : Nat) : Int) by omega]; exact w8 (by omega)
          rw [if_pos ⟨d1, d2⟩, branch_of (decide_eq_true (by omega)), e1, branch_not (decide_eq_false (by omega))]
          by_cases hc : 1844674407370955162 ≤ n
          · rw [branch_of (decide_eq_true (by omega)), if_pos (.inl hc)]; exact hR
          · have e2 : IntKind.u64.wrap ((n : Int) * 10) = ((n * 10 : Nat) : Int) := by rw [show (n : Int) * 10 = ((n * 10 : Nat) : Int) by omega]; exact w64 (by omega)
            have e3 : IntKind.u64.wrap ((c - 48 : Nat) : Int) = ((c - 48 : Nat) : Int) := w64 (by omega)
            rw [branch_not (decide_eq_false (by omega)), e2, e3, show ((n * 10 : Nat) : Int) + ((c - 48 : Nat) : Int) = ((n * 10 + (c - 48) : Nat) : Int) by omega]
            by_cases ho : 18446744073709551616 ≤ n * 10 + (c - 48)
            · have e4 : IntKind.u64.wrap ((n * 10 + (c - 48) : Nat) : Int) = ((n * 10 + (c - 48) - 18446744073709551616 : Nat) : Int) := by
                unfold IntKind.wrap
                simp only [IntKind.signed, IntKind.bits]
                simp
                omega
              rw [e4, branch_of (decide_eq_true (by omega)), if_pos (.inr ho)]; exact hR
            · rw [w64 (by omega), branch_not (decide_eq_false (by omega)), branch_not (decide_eq_false (by omega)), if_neg (by omega)]
              exact ih _ (by omega)
        · rw [if_neg (by omega), branch_not (decide_eq_false (by omega))]
          exact syn _ (some (.ret (puA (0, 2)), st)) _ hC
      · rw [if_neg (by omega), branch_not (decide_eq_false (by omega))]
        exact syn _ (some (.ret (puA (0, 2)), st)) _ hC
end Go.Proofs.YtcfedmheblbdnaaDoor.V

/- Values: ParseUint, as a callee whose three kinds of answers are told apart. -/
set_option linter.unusedVariables false
namespace Go.Proofs.YtcfedmheblbdnaaDoor.V
open Go Go.V Go.RowKit

noncomputable def byF (O : POrc Tryd.prog) (F' : List AV → (AV → Ans) → Ans) (h : ∀ k args fin, F' args k = some fin → O.F args k = some fin) : POrc Tryd.prog :=
  { O with F := F', sound := fun k args fin hk => O.sound k args fin (h k args fin hk) }
def decP : List AV → Option ByteArray
  | [x, y, z] => match x with
    | .str s => match y with
      | .int k n => match k with
        | .i64 => match z with
          | .int k' m => match k' with
            | .i64 => match decide (n = 10 ∧ m = 0) with
              | true => some s
              | false => none
            | _ => none
          | _ => none
        | _ => none
      | _ => none
    | _ => none
  | _ => none
theorem decP_enc : ∀ l a, decP l = some a → l = [.str a, .int .i64 10, .int .i64 0] := by
  intro l a h
  unfold decP at h
  split at h
  · split at h
    · split at h
      · split at h
        · split at h
          · split at h
            · split at h
              · rename_i hn
                obtain ⟨rfl, rfl⟩ := of_decide_eq_true hn
                cases h; rfl
              · cases h
            · cases h
          · cases h
        · cases h
      · cases h
    · cases h
  · cases h
noncomputable def puR (s : ByteArray) : Nat × Nat := opq (if strL s = [] then (0, 2) else puF (strL s) 0)
theorem pu_eq (s : ByteArray) (hs : s.size ≤ 100000) (st : St) : f90.run 100001 [.str s, .int .i64 10, .int .i64 0] st = some (.ret (puA (puR s)), st) := by
  have hsz := strL_size s
  have hr : rowsOfStr s = bR (strL s) := strL_rows s
  rw [pu_run, puR, opq_eq, hr]
  by_cases h0 : strL s = []
  · have : (s.toList == []) = true := by rw [ByteArray.toList_eq, beq_iff_eq]; simpa [strL] using h0
    rw [branch_of this, if_pos h0]; rfl
  · have : (s.toList == []) = false := by rw [ByteArray.toList_eq, beq_eq_false_iff_ne]; intro e; exact h0 (by simp [strL, e])
    rw [branch_not this, if_neg h0]
    exact pu_all 100001 (.str s) (strL s) (strL_lt s) (by omega) st (strL s).length 0 100001 0 (by omega) (by omega) (by omega)
theorem errA_scoped (e : Nat) (n m : Nat) : Scoped n m (errA e) := by
  unfold errA
  split <;> trivial
theorem errA_frz (e : Nat) : frz.frz1 (errA e) = errA e := by
  unfold errA
  split <;> rfl
noncomputable def p90r : POrc Tryd.prog := f90.pureIf decP (fun s => [.str s, .int .i64 10, .int .i64 0]) decP_enc (fun s => cdec (s.size ≤ 100000)) (fun s => puA (puR s)) (fun s _ => ⟨by show AV.tup [_, frz.frz1 (errA _)] = _; rw [errA_frz]; rfl, fun _ _ => ⟨trivial, errA_scoped _ _ _, trivial⟩⟩) fun s h => ⟨100001, fun st => pu_eq s (cdec_iff.mp h) st⟩
theorem p90r_F {args : List AV} {s : ByteArray} (hd : decP args = some s) (hp : cdec (s.size ≤ 100000) = true) (k : AV → Ans) : p90r.F args k = k (puA (puR s)) := by
  simp only [p90r, Fun.pureIf, hd, hp]
noncomputable def puV (s : ByteArray) : Int := opq ((puR s).1 : Int)
noncomputable def puE (s : ByteArray) (e : Nat) : Bool := cdec ((puR s).2 = e)
noncomputable def p90 : POrc Tryd.prog := byF p90r
  (fun args k => match decP args with
    | some s => match cdec (s.size ≤ 100000) with
      | true => branch (.bool (puE s 0)) (k (.tup [.int .u64 (puV s), .nilif])) (branch (.bool (puE s 1)) (k (.tup [.int .u64 (puV s), .ifc 99 (.int .i64 1)])) (branch (.bool (puE s 2)) (k (.tup [.int .u64 (puV s), .ifc 99 (.int .i64 2)])) none))
      | false => none
    | none => none)
  fun k args fin h => by
    split at h
    · rename_i s hs
      split at h
      · rename_i hc
        rw [p90r_F hs hc]
        have hv : puV s = ((puR s).1 : Int) := opq_eq _
        cases h0 : puE s 0 with
        | true =>
          rw [h0, branch_true, hv] at h
          have h0 := cdec_iff.mp h0
          rw [puA, h0]; exact h
        | false =>
          rw [h0, branch_false] at h
          cases h1 : puE s 1 with
          | true =>
            rw [h1, branch_true, hv] at h
            have h1 := cdec_iff.mp h1
            rw [puA, h1]; exact h
          | false =>
            rw [h1, branch_false] at h
            cases h2 : puE s 2 with
            | true =>
              rw [h2, branch_true, hv] at h
              have h2 := cdec_iff.mp h2
              rw [puA, h2]; exact h
            | false => rw [h2, branch_false] at h; cases h
      · cases h
    · cases h
end Go.Proofs.YtcfedmheblbdnaaDoor.V

/- The functions' pieces, as told by gen.py. -/
set_option linter.unusedVariables false
set_option maxRecDepth 20000
namespace Go.Proofs.YtcfedmheblbdnaaDoor.V
open Go Go.V Go.RowKit

theorem if73 : ifcB Tryd.prog 73 = true := by kernel_rfl
theorem cp99 : (Tryd.prog.info? 99).map (·.comparable) = some true := by kernel_rfl

/-! ### 79: internal/strconv.ParseInt (9, 3, 3); results 6, 7; slots: 0 s, 1 base, 2 bitSize, 3 s, 4 base, 5 bitSize, 6 i, 7 err, 8 neg, 9 un, 10 cutoff, 11 n -/
noncomputable def f79_b : Sim Tryd.prog :=
 (.seq (.live [0, 1, 2] (.region 0 [
 ⟨(opAssign (some 6) (.const (Value.int IntKind.i64 0)) 2 "atoi.go:172" #[]).op, none⟩,
 ⟨(opAssign (some 7) (.const Value.nilIface) 73 "atoi.go:172" #[eC 0]).op, none⟩
 ] (by kernel_rfl)))
 (.seq (.seq (.live [0, 1, 2, 13] (.region 1 [
 ⟨(opMove (some 12) (.tmp 0) 9 "atoi.go:175" #[]).op, none⟩,
 ⟨(opBinS (some 13) .eql 9 (.tmp 12) (.const (Value.string { data := #[] })) 9 4 "atoi.go:175" #[eD 0]).op, none⟩
 ] (by kernel_rfl)))
 (.cond (.tmp 13)
 (.seq (.live [6, 7] (.region 2 [
 ⟨(opMakeIface (some 14) 99 (.const (Value.int IntKind.i64 2)) (.int .i64) Tryd.underlying99 (by kernel_rfl) 73 "atoi.go:176" #[{ on := 1, ground := (Ground.gcOnly Departure.lateStores) }]).op, none⟩,
 ⟨(opAssign (some 6) (.const (Value.int IntKind.i64 0)) 2 "atoi.go:176" #[{ on := 0, ground := (Ground.textOnly Departure.lateStores) }]).op, none⟩,
 ⟨(opAssign (some 7) (.tmp 14) 73 "atoi.go:176" #[eD 0, eC 1, eP 0, eP 1]).op, none⟩
 ] (by kernel_rfl)))
 (.live [6, 7] .ret))
 .skip))
 (.seq (.live [0, 1, 2, 8] (.region 3 [
 ⟨(opAssign (some 8) (.const (Value.bool false)) 4 "atoi.go:180" #[]).op, none⟩
 ] (by kernel_rfl)))
 (.seq (.seq (.live [0, 1, 2, 8, 16] (.region 4 [
 ⟨(opMove (some 15) (.tmp 0) 9 "atoi.go:181" #[]).op, none⟩,
 ⟨(opIndexStrW (some 16) 9 (.tmp 15) (.const (Value.int IntKind.i64 0)) Tryd.underlying9 5 "atoi.go:181" #[eD 0]).op, none⟩
 ] (by kernel_rfl)))
 (.block 0 (.seq (.live [0, 1, 2, 8, 16, 17] (.region 5 [
 ⟨(opBin (some 18) .eql 5 (.tmp 16) (.const (Value.int IntKind.u8 43)) 5 4 "atoi.go:182" #[]).op, none⟩,
 ⟨(opAssign (some 17) (.tmp 18) 4 "atoi.go:182" #[eD 0]).op, none⟩
 ] (by kernel_rfl)))
 (.cond (.tmp 17)
 (.live [0, 1, 2, 8] (.region 6 [
 ⟨(opMove (some 19) (.tmp 0) 9 "atoi.go:183" #[]).op, none⟩,
 ⟨(opSliceStrW (some 20) 9 (.tmp 19) (some (.const (Value.int IntKind.i64 1))) none Tryd.underlying9 9 "atoi.go:183" #[eD 0]).op, none⟩,
 ⟨(opAssign (some 0) (.tmp 20) 9 "atoi.go:183" #[eD 1, eP 0, eP 1]).op, none⟩
 ] (by kernel_rfl)))
 (.seq (.live [0, 1, 2, 8, 21] (.region 7 [
 ⟨(opBin (some 22) .eql 5 (.tmp 16) (.const (Value.int IntKind.u8 45)) 5 4 "atoi.go:184" #[]).op, none⟩,
 ⟨(opAssign (some 21) (.tmp 22) 4 "atoi.go:184" #[eD 0]).op, none⟩
 ] (by kernel_rfl)))
 (.cond (.tmp 21)
 (.seq (.live [0, 1, 2] (.region 8 [
 ⟨(opMove (some 23) (.tmp 0) 9 "atoi.go:185" #[]).op, none⟩,
 ⟨(opSliceStrW (some 24) 9 (.tmp 23) (some (.const (Value.int IntKind.i64 1))) none Tryd.underlying9 9 "atoi.go:185" #[eD 0]).op, none⟩,
 ⟨(opAssign (some 0) (.tmp 24) 9 "atoi.go:185" #[eD 1, eP 0, eP 1]).op, none⟩
 ] (by kernel_rfl)))
 (.live [0, 1, 2, 8] (.region 9 [
 ⟨(opAssign (some 8) (.const (Value.bool true)) 4 "atoi.go:186" #[]).op, none⟩
 ] (by kernel_rfl))))
 .skip))))))
 (.seq (.live [0, 1, 2, 8] (.region 10 [
 ⟨(opAssign (some 9) (.const (Value.int IntKind.u64 0)) 84 "atoi.go:190" #[]).op, none⟩
 ] (by kernel_rfl)))
 (.seq (.live [2, 7, 8, 9] (.region 11 [
 ⟨(opMove (some 26) (.tmp 0) 9 "atoi.go:191" #[]).op, none⟩,
 ⟨(opMove (some 27) (.tmp 1) 3 "atoi.go:191" #[]).op, none⟩,
 ⟨(opMove (some 28) (.tmp 2) 3 "atoi.go:191" #[]).op, none⟩,
 ⟨(opCallP p90 (some 29) [(.tmp 26), (.tmp 27), (.tmp 28)] #[9, 3, 3] 111 "atoi.go:191" #[eD 0, eD 1, eD 2]).op, none⟩,
 ⟨(opMove (some 25) (.tmp 29) 111 "atoi.go:191" #[eD 3]).op, none⟩,
 ⟨(opExtract (some 30) (.tmp 25) 0 84 "atoi.go:191" #[eD 4]).op, none⟩,
 ⟨(opExtract (some 31) (.tmp 25) 1 73 "atoi.go:191" #[eD 4, { on := 7, ground := (Ground.gcOnly Departure.lateStores) }]).op, none⟩,
 ⟨(opAssign (some 9) (.tmp 30) 84 "atoi.go:191" #[eD 5, eC 3, eP 0, eP 1, eP 2, eP 3, eP 4, eP 5, { on := 6, ground := (Ground.textOnly Departure.lateStores) }]).op, none⟩,
 ⟨(opAssign (some 7) (.tmp 31) 73 "atoi.go:191" #[eD 6, eC 7, eP 0, eP 1, eP 2, eP 3, eP 4, eP 5, eP 6, eP 7]).op, none⟩
 ] (by kernel_rfl)))
 (.seq (.seq (.live [2, 7, 8, 9, 38] (.region 12 [
 ⟨(opMove (some 32) (.tmp 7) 73 "atoi.go:192" #[]).op, none⟩,
 ⟨(opNe (some 33) 73 d73 ud73 (.tmp 32) (.const Value.nilIface) (.inl rfl) 73 4 "atoi.go:192" #[eD 0]).op, none⟩,
 ⟨(opMove (some 34) (.tmp 33) 4 "atoi.go:192" #[eD 1]).op, none⟩,
 ⟨(opMove (some 35) (.tmp 7) 73 "atoi.go:192" #[eG 2]).op, (some (2, 34, true))⟩,
 ⟨(opMakeIface (some 36) 99 (.const (Value.int IntKind.i64 1)) (.int .i64) Tryd.underlying99 (by kernel_rfl) 73 "atoi.go:192" #[eG 2]).op, (some (2, 34, true))⟩,
 ⟨(opNeI (some 37) 73 99 .i64 if73 Tryd.underlying99 cp99 (.tmp 35) (.tmp 36) 73 4 "atoi.go:192" #[eD 3, eD 4, eG 2]).op, (some (2, 34, true))⟩,
 ⟨(opPick (some 38) (.tmp 34) (.tmp 37) (.const (Value.bool false)) 4 "atoi.go:192" #[eD 2, eD 5]).op, none⟩
 ] (by kernel_rfl)))
 (.cond (.tmp 38)
 (.seq (.live [6, 7] (.region 13 [
 ⟨(opMove (some 39) (.tmp 7) 73 "atoi.go:193" #[{ on := 1, ground := (Ground.gcOnly Departure.lateStores) }]).op, none⟩,
 ⟨(opAssign (some 6) (.const (Value.int IntKind.i64 0)) 2 "atoi.go:193" #[{ on := 0, ground := (Ground.textOnly Departure.lateStores) }]).op, none⟩,
 ⟨(opAssign (some 7) (.tmp 39) 73 "atoi.go:193" #[eD 0, eC 1, eP 0, eP 1]).op, none⟩
 ] (by kernel_rfl)))
 (.live [6, 7] .ret))
 .skip))
 (.seq (.seq (.live [2, 8, 9, 41] (.region 14 [
 ⟨(opMove (some 40) (.tmp 2) 3 "atoi.go:196" #[]).op, none⟩,
 ⟨(opBin (some 41) .eql 3 (.tmp 40) (.const (Value.int IntKind.i64 0)) 3 4 "atoi.go:196" #[eD 0]).op, none⟩
 ] (by kernel_rfl)))
 (.cond (.tmp 41)
 (.live [2, 8, 9] (.region 15 [
 ⟨(opAssign (some 2) (.const (Value.int IntKind.i64 64)) 3 "atoi.go:197" #[]).op, none⟩
 ] (by kernel_rfl)))
 .skip))
 (.seq (.live [8, 9, 10] (.region 16 [
 ⟨(opMove (some 42) (.tmp 2) 3 "atoi.go:200" #[]).op, none⟩,
 ⟨(opBin (some 43) .sub 3 (.tmp 42) (.const (Value.int IntKind.i64 1)) 3 3 "atoi.go:200" #[eD 0]).op, none⟩,
 ⟨(opConvInt (some 44) 3 80 (.tmp 43) (.int .i64) Tryd.underlying3 .u64 Tryd.underlying80 80 "atoi.go:200" #[eD 1]).op, none⟩,
 ⟨(opBin (some 45) .shl 84 (.const (Value.int IntKind.u64 1)) (.tmp 44) 80 84 "atoi.go:200" #[eD 2]).op, none⟩,
 ⟨(opAssign (some 10) (.tmp 45) 84 "atoi.go:200" #[eD 3, eP 0, eP 1, eP 2, eP 3]).op, none⟩
 ] (by kernel_rfl)))
 (.seq (.seq (.live [8, 9, 10, 52] (.region 17 [
 ⟨(opMove (some 46) (.tmp 8) 4 "atoi.go:201" #[]).op, none⟩,
 ⟨(opNot (some 47) 4 (.tmp 46) 4 "atoi.go:201" #[eD 0]).op, none⟩,
 ⟨(opMove (some 48) (.tmp 47) 4 "atoi.go:201" #[eD 1]).op, none⟩,
 ⟨(opMove (some 49) (.tmp 9) 84 "atoi.go:201" #[eG 2]).op, (some (2, 48, true))⟩,
 ⟨(opMove (some 50) (.tmp 10) 84 "atoi.go:201" #[eG 2]).op, (some (2, 48, true))⟩,
 ⟨(opBin (some 51) .geq 84 (.tmp 49) (.tmp 50) 84 4 "atoi.go:201" #[eD 3, eD 4, eG 2]).op, (some (2, 48, true))⟩,
 ⟨(opPick (some 52) (.tmp 48) (.tmp 51) (.const (Value.bool false)) 4 "atoi.go:201" #[eD 2, eD 5]).op, none⟩
 ] (by kernel_rfl)))
 (.cond (.tmp 52)
 (.seq (.live [6, 7] (.region 18 [
 ⟨(opMove (some 53) (.tmp 10) 84 "atoi.go:202" #[]).op, none⟩,
 ⟨(opBin (some 54) .sub 84 (.tmp 53) (.const (Value.int IntKind.u64 1)) 84 84 "atoi.go:202" #[eD 0]).op, none⟩,
 ⟨(opConvInt (some 55) 84 2 (.tmp 54) (.int .u64) Tryd.underlying84 .i64 Tryd.underlying2 2 "atoi.go:202" #[eD 1]).op, none⟩,
 ⟨(opMakeIface (some 56) 99 (.const (Value.int IntKind.i64 1)) (.int .i64) Tryd.underlying99 (by kernel_rfl) 73 "atoi.go:202" #[{ on := 4, ground := (Ground.gcOnly Departure.lateStores) }]).op, none⟩,
 ⟨(opAssign (some 6) (.tmp 55) 2 "atoi.go:202" #[eD 2, eP 0, eP 1, eP 2, { on := 3, ground := (Ground.textOnly Departure.lateStores) }]).op, none⟩,
 ⟨(opAssign (some 7) (.tmp 56) 73 "atoi.go:202" #[eD 3, eC 4, eP 0, eP 1, eP 2, eP 3, eP 4]).op, none⟩
 ] (by kernel_rfl)))
 (.live [6, 7] .ret))
 .skip))
 (.seq (.seq (.live [8, 9, 10, 62] (.region 19 [
 ⟨(opMove (some 57) (.tmp 8) 4 "atoi.go:204" #[]).op, none⟩,
 ⟨(opMove (some 58) (.tmp 57) 4 "atoi.go:204" #[eD 0]).op, none⟩,
 ⟨(opMove (some 59) (.tmp 9) 84 "atoi.go:204" #[eG 1]).op, (some (1, 58, true))⟩,
 ⟨(opMove (some 60) (.tmp 10) 84 "atoi.go:204" #[eG 1]).op, (some (1, 58, true))⟩,
 ⟨(opBin (some 61) .gtr 84 (.tmp 59) (.tmp 60) 84 4 "atoi.go:204" #[eD 2, eD 3, eG 1]).op, (some (1, 58, true))⟩,
 ⟨(opPick (some 62) (.tmp 58) (.tmp 61) (.const (Value.bool false)) 4 "atoi.go:204" #[eD 1, eD 4]).op, none⟩
 ] (by kernel_rfl)))
 (.cond (.tmp 62)
 (.seq (.live [6, 7] (.region 20 [
 ⟨(opMove (some 63) (.tmp 10) 84 "atoi.go:205" #[]).op, none⟩,
 ⟨(opConvInt (some 64) 84 2 (.tmp 63) (.int .u64) Tryd.underlying84 .i64 Tryd.underlying2 2 "atoi.go:205" #[eD 0]).op, none⟩,
 ⟨(opNeg (some 65) 2 (.tmp 64) 2 "atoi.go:205" #[eD 1]).op, none⟩,
 ⟨(opMakeIface (some 66) 99 (.const (Value.int IntKind.i64 1)) (.int .i64) Tryd.underlying99 (by kernel_rfl) 73 "atoi.go:205" #[{ on := 4, ground := (Ground.gcOnly Departure.lateStores) }]).op, none⟩,
 ⟨(opAssign (some 6) (.tmp 65) 2 "atoi.go:205" #[eD 2, eP 0, eP 1, eP 2, { on := 3, ground := (Ground.textOnly Departure.lateStores) }]).op, none⟩,
 ⟨(opAssign (some 7) (.tmp 66) 73 "atoi.go:205" #[eD 3, eC 4, eP 0, eP 1, eP 2, eP 3, eP 4]).op, none⟩
 ] (by kernel_rfl)))
 (.live [6, 7] .ret))
 .skip))
 (.seq (.live [8, 11] (.region 21 [
 ⟨(opMove (some 67) (.tmp 9) 84 "atoi.go:207" #[]).op, none⟩,
 ⟨(opConvInt (some 68) 84 2 (.tmp 67) (.int .u64) Tryd.underlying84 .i64 Tryd.underlying2 2 "atoi.go:207" #[eD 0]).op, none⟩,
 ⟨(opAssign (some 11) (.tmp 68) 2 "atoi.go:207" #[eD 1, eP 0, eP 1]).op, none⟩
 ] (by kernel_rfl)))
 (.seq (.seq (.live [11, 69] (.region 22 [
 ⟨(opMove (some 69) (.tmp 8) 4 "atoi.go:208" #[]).op, none⟩
 ] (by kernel_rfl)))
 (.cond (.tmp 69)
 (.live [11] (.region 23 [
 ⟨(opMove (some 70) (.tmp 11) 2 "atoi.go:209" #[]).op, none⟩,
 ⟨(opNeg (some 71) 2 (.tmp 70) 2 "atoi.go:209" #[eD 0]).op, none⟩,
 ⟨(opAssign (some 11) (.tmp 71) 2 "atoi.go:209" #[eD 1, eP 0, eP 1]).op, none⟩
 ] (by kernel_rfl)))
 .skip))
 (.seq (.live [6, 7] (.region 24 [
 ⟨(opMove (some 72) (.tmp 11) 2 "atoi.go:211" #[]).op, none⟩,
 ⟨(opAssign (some 6) (.tmp 72) 2 "atoi.go:211" #[eD 0, eP 0]).op, none⟩,
 ⟨(opAssign (some 7) (.const Value.nilIface) 73 "atoi.go:211" #[eC 1, eP 0, eP 1]).op, none⟩
 ] (by kernel_rfl)))
 (.live [6, 7] .ret)))))))))))))))

noncomputable def f79 : Fun Tryd.prog where
 id := 79
 fn := Tryd.f79
 hf := Tryd.func79
 hname := by kernel_rfl
 body := f79_b
 hbody := by kernel_rfl
 res := [rTmp 6, rTmp 7]
 hres := by kernel_rfl
 n := 73
 hn := by kernel_rfl

end Go.Proofs.YtcfedmheblbdnaaDoor.V

/- What the functions' runs come to; the right sides were printed by a tool, Lean checks them. -/
set_option linter.unusedVariables false
set_option maxRecDepth 100000
namespace Go.Proofs.YtcfedmheblbdnaaDoor.V
open Go Go.V Go.RowKit

theorem pi_run (F : Nat) (s : ByteArray) (st : St) :
 (f79.run F [.str s, .int .i64 10, .int .i64 0] st : Ans) =
 branch (AV.bool (s.toList == []))
 (some (Fin.ret (AV.tup [AV.int IntKind.i64 (0 : Int), AV.ifc 99 (AV.int IntKind.i64 (2 : Int))]), st))
 (branch (AV.bool (inT s (0 : Int)))
 (branch (AV.bool (atT s (0 : Int) == (43 : Int)))
 (branch (AV.bool (inSl s (1 : Int) (↑s.size : Int)))
 (branch (AV.bool (cdec ((subT s (1 : Int) (↑s.size : Int)).size ≤ 100000)))
 (branch (AV.bool (puE (subT s (1 : Int) (↑s.size : Int)) 0))
 (branch (AV.bool (decide (puV (subT s (1 : Int) (↑s.size : Int)) ≥ (9223372036854775808 : Int))))
 (some
 (Fin.ret
 (AV.tup
 [AV.int IntKind.i64 (9223372036854775807 : Int),
 AV.ifc 99 (AV.int IntKind.i64 (1 : Int))]),
 st))
 (some
 (Fin.ret
 (AV.tup [AV.int IntKind.i64 (IntKind.i64.wrap (puV (subT s (1 : Int) (↑s.size : Int)))), AV.nilif]),
 st)))
 (branch (AV.bool (puE (subT s (1 : Int) (↑s.size : Int)) 1))
 (branch (AV.bool (decide (puV (subT s (1 : Int) (↑s.size : Int)) ≥ (9223372036854775808 : Int))))
 (some
 (Fin.ret
 (AV.tup
 [AV.int IntKind.i64 (9223372036854775807 : Int),
 AV.ifc 99 (AV.int IntKind.i64 (1 : Int))]),
 st))
 (some
 (Fin.ret
 (AV.tup
 [AV.int IntKind.i64 (IntKind.i64.wrap (puV (subT s (1 : Int) (↑s.size : Int)))), AV.nilif]),
 st)))
 (branch (AV.bool (puE (subT s (1 : Int) (↑s.size : Int)) 2))
 (some
 (Fin.ret (AV.tup [AV.int IntKind.i64 (0 : Int), AV.ifc 99 (AV.int IntKind.i64 (2 : Int))]),
 st))
 none)))
 none)
 none)
 (branch (AV.bool (atT s (0 : Int) == (45 : Int)))
 (branch (AV.bool (inSl s (1 : Int) (↑s.size : Int)))
 (branch (AV.bool (cdec ((subT s (1 : Int) (↑s.size : Int)).size ≤ 100000)))
 (branch (AV.bool (puE (subT s (1 : Int) (↑s.size : Int)) 0))
 (branch (AV.bool (decide (puV (subT s (1 : Int) (↑s.size : Int)) > (9223372036854775808 : Int))))
 (some
 (Fin.ret
 (AV.tup
 [AV.int IntKind.i64 (-9223372036854775808 : Int),
 AV.ifc 99 (AV.int IntKind.i64 (1 : Int))]),
 st))
 (some
 (Fin.ret
 (AV.tup
 [AV.int IntKind.i64
 (IntKind.i64.wrap ((0 : Int) - IntKind.i64.wrap (puV (subT s (1 : Int) (↑s.size : Int))))),
 AV.nilif]),
 st)))
 (branch (AV.bool (puE (subT s (1 : Int) (↑s.size : Int)) 1))
 (branch (AV.bool (decide (puV (subT s (1 : Int) (↑s.size : Int)) > (9223372036854775808 : Int))))
 (some
 (Fin.ret
 (AV.tup
 [AV.int IntKind.i64 (-9223372036854775808 : Int),
 AV.ifc 99 (AV.int IntKind.i64 (1 : Int))]),
 st))
 (some
 (Fin.ret
 (AV.tup
 [AV.int IntKind.i64
 (IntKind.i64.wrap
 ((0 : Int) - IntKind.i64.wrap (puV (subT s (1 : Int) (↑s.size : Int))))),
 AV.nilif]),
 st)))
 (branch (AV.bool (puE (subT s (1 : Int) (↑s.size : Int)) 2))
 (some
 (Fin.ret (AV.tup [AV.int IntKind.i64 (0 : Int), AV.ifc 99 (AV.int IntKind.i64 (2 : Int))]),
 st))
 none)))
 none)
 none)
 (branch (AV.bool (cdec (s.size ≤ 100000)))
 (branch (AV.bool (puE s 0))
 (branch (AV.bool (decide (puV s ≥ (9223372036854775808 : Int))))
 (some
 (Fin.ret
 (AV.tup
 [AV.int IntKind.i64 (9223372036854775807 : Int),
 AV.ifc 99 (AV.int IntKind.i64 (1 : Int))]),
 st))
 (some (Fin.ret (AV.tup [AV.int IntKind.i64 (IntKind.i64.wrap (puV s)), AV.nilif]), st)))
 (branch (AV.bool (puE s 1))
 (branch (AV.bool (decide (puV s ≥ (9223372036854775808 : Int))))
 (some
 (Fin.ret
 (AV.tup
 [AV.int IntKind.i64 (9223372036854775807 : Int),
 AV.ifc 99 (AV.int IntKind.i64 (1 : Int))]),
 st))
 (some (Fin.ret (AV.tup [AV.int IntKind.i64 (IntKind.i64.wrap (puV s)), AV.nilif]), st)))
 (branch (AV.bool (puE s 2))
 (some
 (Fin.ret (AV.tup [AV.int IntKind.i64 (0 : Int), AV.ifc 99 (AV.int IntKind.i64 (2 : Int))]),
 st))
 none)))
 none)))
 none) := by kernel_rfl

end Go.Proofs.YtcfedmheblbdnaaDoor.V

/- Values: ParseInt to the base ten, as a callee. -/
set_option linter.unusedVariables false
namespace Go.Proofs.YtcfedmheblbdnaaDoor.V
open Go Go.V Go.RowKit

def puL (t : List Nat) : Nat × Nat := if t = [] then (0, 2) else puF t 0
theorem puR_eq (s : ByteArray) : puR s = puL (strL s) := opq_eq _
theorem puF_le : ∀ (t : List Nat) (n : Nat), n < 18446744073709551616 → (puF t n).1 < 18446744073709551616 ∧ ((puF t n).2 = 0 ∨ (puF t n) = (18446744073709551615, 1) ∨ (puF t n) = (0, 2))
  | [], n, h => ⟨h, .inl rfl⟩
  | c :: r, n, h => by
    rw [puF]
    split
    · split
      · exact ⟨by decide, .inr (.inl rfl)⟩
      · exact puF_le r _ (by omega)
    · exact ⟨by decide, .inr (.inr rfl)⟩
theorem puL_le (t : List Nat) : (puL t).1 < 18446744073709551616 ∧ ((puL t).2 = 0 ∨ (puL t) = (18446744073709551615, 1) ∨ (puL t) = (0, 2)) := by
  unfold puL
  split
  · exact ⟨by decide, .inr (.inr rfl)⟩
  · exact puF_le t 0 (by decide)
/-- A number with a sign before it or none. -/
def posF (x : Nat × Nat) : Int × Nat := if x.2 = 2 then (0, 2) else if 9223372036854775808 ≤ x.1 then (9223372036854775807, 1) else ((x.1 : Int), 0)
def negF (x : Nat × Nat) : Int × Nat := if x.2 = 2 then (0, 2) else if 9223372036854775808 < x.1 then (-9223372036854775808, 1) else (-(x.1 : Int), 0)
def piF : List Nat → Int × Nat
  | [] => (0, 2)
  | c :: r => if c = 43 then posF (puL r) else if c = 45 then negF (puL r) else posF (puL (c :: r))
def piA (x : Int × Nat) : AV := .tup [.int .i64 x.1, errA x.2]
theorem pos_tree (u : ByteArray) (st : St) :
    (branch (AV.bool (puE u 0))
      (branch (AV.bool (decide (puV u ≥ (9223372036854775808 : Int)))) (some (Fin.ret (AV.tup [AV.int IntKind.i64 (9223372036854775807 : Int), AV.ifc 99 (AV.int IntKind.i64 (1 : Int))]), st)) (some (Fin.ret (AV.tup [AV.int IntKind.i64 (IntKind.i64.wrap (puV u)), AV.nilif]), st)))
      (branch (AV.bool (puE u 1))
        (branch (AV.bool (decide (puV u ≥ (9223372036854775808 : Int)))) (some (Fin.ret (AV.tup [AV.int IntKind.i64 (9223372036854775807 : Int), AV.ifc 99 (AV.int IntKind.i64 (1 : Int))]), st)) (some (Fin.ret (AV.tup [AV.int IntKind.i64 (IntKind.i64.wrap (puV u)), AV.nilif]), st)))
        (branch (AV.bool (puE u 2)) (some (Fin.ret (AV.tup [AV.int IntKind.i64 (0 : Int), AV.ifc 99 (AV.int IntKind.i64 (2 : Int))]), st)) none)) : Ans)
      = some (.ret (piA (posF (puL (strL u)))), st) := by
  obtain ⟨h1, h2⟩ := puL_le (strL u)
  have hv : puV u = ((puL (strL u)).1 : Int) := by rw [puV, opq_eq, puR_eq]
  have he : ∀ e, puE u e = cdec ((puL (strL u)).2 = e) := fun e => by rw [puE, puR_eq]
  rw [hv, he, he, he]
  generalize puL (strL u) = x at *
  obtain ⟨n, e⟩ := x
  simp only at h1 h2 ⊢
  rcases h2 with rfl | h2 | h2
  · rw [branch_of (cdec_iff.mpr rfl), posF, if_neg (show ¬ (0 : Nat) = 2 by decide)]
    by_cases hn : 9223372036854775808 ≤ n
    · rw [branch_of (decide_eq_true (by omega)), if_pos hn]; rfl
    · rw [branch_not (decide_eq_false (by omega)), if_neg hn, wrapS (by omega) (by omega)]; rfl
  · cases h2
    rw [branch_not (by rw [Bool.eq_false_iff, ne_eq, cdec_iff]; decide), branch_of (cdec_iff.mpr rfl), branch_of (by decide)]; rfl
  · cases h2
    rw [branch_not (by rw [Bool.eq_false_iff, ne_eq, cdec_iff]; decide), branch_not (by rw [Bool.eq_false_iff, ne_eq, cdec_iff]; decide), branch_of (cdec_iff.mpr rfl)]; rfl
theorem neg_tree (u : ByteArray) (st : St) :
    (branch (AV.bool (puE u 0))
      (branch (AV.bool (decide (puV u > (9223372036854775808 : Int)))) (some (Fin.ret (AV.tup [AV.int IntKind.i64 (-9223372036854775808 : Int), AV.ifc 99 (AV.int IntKind.i64 (1 : Int))]), st)) (some (Fin.ret (AV.tup [AV.int IntKind.i64 (IntKind.i64.wrap ((0 : Int) - IntKind.i64.wrap (puV u))), AV.nilif]), st)))
      (branch (AV.bool (puE u 1))
        (branch (AV.bool (decide (puV u > (9223372036854775808 : Int)))) (some (Fin.ret (AV.tup [AV.int IntKind.i64 (-9223372036854775808 : Int), AV.ifc 99 (AV.int IntKind.i64 (1 : Int))]), st)) (some (Fin.ret (AV.tup [AV.int IntKind.i64 (IntKind.i64.wrap ((0 : Int) - IntKind.i64.wrap (puV u))), AV.nilif]), st)))
        (branch (AV.bool (puE u 2)) (some (Fin.ret (AV.tup [AV.int IntKind.i64 (0 : Int), AV.ifc 99 (AV.int IntKind.i64 (2 : Int))]), st)) none)) : Ans)
      = some (.ret (piA (negF (puL (strL u)))), st) := by
  obtain ⟨h1, h2⟩ := puL_le (strL u)
  have hv : puV u = ((puL (strL u)).1 : Int) := by rw [puV, opq_eq, puR_eq]
  have he : ∀ e, puE u e = cdec ((puL (strL u)).2 = e) := fun e => by rw [puE, puR_eq]
  rw [hv, he, he, he]
  generalize puL (strL u) = x at *
  obtain ⟨n, e⟩ := x
  simp only at h1 h2 ⊢
  rcases h2 with rfl | h2 | h2
  · rw [branch_of (cdec_iff.mpr rfl), negF, if_neg (show ¬ (0 : Nat) = 2 by decide)]
    by_cases hn : 9223372036854775808 < n
    · rw [branch_of (decide_eq_true (by omega)), if_pos hn]; rfl
    · rw [branch_not (decide_eq_false (by omega)), if_neg hn]
      by_cases hm : n = 9223372036854775808
      · subst hm; rfl
      · rw [wrapS (n := ((n : Nat) : Int)) (by omega) (by omega), wrapS (by omega) (by omega), Int.zero_sub]; rfl
  · cases h2
    rw [branch_not (by rw [Bool.eq_false_iff, ne_eq, cdec_iff]; decide), branch_of (cdec_iff.mpr rfl), branch_of (by decide)]; rfl
  · cases h2
    rw [branch_not (by rw [Bool.eq_false_iff, ne_eq, cdec_iff]; decide), branch_not (by rw [Bool.eq_false_iff, ne_eq, cdec_iff]; decide), branch_of (cdec_iff.mpr rfl)]; rfl
theorem empty_iff (s : ByteArray) : (s.toList == []) = decide (strL s = []) := by
  rw [ByteArray.toList_eq, Bool.eq_iff_iff, beq_iff_eq, decide_eq_true_eq]; simp [strL]
theorem tail_text {s : ByteArray} {c : Nat} {r : List Nat} (h : strL s = c :: r) : inT s (0 : Int) = true ∧ atT s (0 : Int) = (c : Nat) ∧ inSl s (1 : Int) (s.size : Int) = true ∧ strL (subT s (1 : Int) (s.size : Int)) = r := by
  have hsz := strL_size s
  rw [h, List.length_cons] at hsz
  refine ⟨inT_iff.mpr ⟨by omega, by rw [h]; simp⟩, by rw [atT, opq_eq, h]; rfl, inSl_iff.mpr ⟨by omega, by omega, by rw [h, List.length_cons]; omega⟩, ?_⟩
  rw [subT_list, h, Int.toNat_natCast, hsz]
  show ((c :: r).take (r.length + 1)).drop 1 = r
  simp
theorem pi_eq (s : ByteArray) (hs : s.size ≤ 100000) (st : St) : f79.run 0 [.str s, .int .i64 10, .int .i64 0] st = some (.ret (piA (piF (strL s))), st) := by
  rw [pi_run, empty_iff]
  cases hl : strL s with
  | nil => rfl
  | cons c r =>
    obtain ⟨h1, h2, h3, h4⟩ := tail_text hl
    have hsz := strL_size s
    rw [hl, List.length_cons] at hsz
    have hsub : (subT s (1 : Int) (s.size : Int)).size ≤ 100000 := by rw [strL_size, h4]; omega
    rw [branch_not (decide_eq_false (by simp)), branch_of h1, h2, piF]
    by_cases c1 : c = 43
    · rw [branch_of (show (((c : Nat) : Int) == 43) = true by rw [beq_iff_eq]; omega), branch_of h3, branch_of (cdec_iff.mpr hsub), pos_tree, h4, if_pos c1]
    · rw [branch_not (show (((c : Nat) : Int) == 43) = false by rw [beq_eq_false_iff_ne]; omega), if_neg c1]
      by_cases c2 : c = 45
      · rw [branch_of (show (((c : Nat) : Int) == 45) = true by rw [beq_iff_eq]; omega), branch_of h3, branch_of (cdec_iff.mpr hsub), neg_tree, h4, if_pos c2]
      · rw [branch_not (show (((c : Nat) : Int) == 45) = false by rw [beq_eq_false_iff_ne]; omega), branch_of (cdec_iff.mpr hs), pos_tree, hl, if_neg c2]
/-- A callee that answers a number and whether something was wrong: the three kinds told apart. -/
noncomputable def kOf (O : POrc Tryd.prog) (dec : List AV → Option ByteArray) (r : ByteArray → Int × Nat)
    (h : ∀ args s, dec args = some s → cdec (s.size ≤ 100000) = true → ∀ k, O.F args k = k (piA (r s))) : POrc Tryd.prog := byF O
  (fun args k => match dec args with
    | some s => match cdec (s.size ≤ 100000) with
      | true => branch (.bool (cdec ((r s).2 = 0))) (k (.tup [.int .i64 (opq (r s).1), .nilif])) (branch (.bool (cdec ((r s).2 = 1))) (k (.tup [.int .i64 (opq (r s).1), .ifc 99 (.int .i64 1)])) (branch (.bool (cdec ((r s).2 = 2))) (k (.tup [.int .i64 (opq (r s).1), .ifc 99 (.int .i64 2)])) none))
      | false => none
    | none => none)
  fun k args fin h' => by
    split at h'
    · rename_i s hs
      split at h'
      · rename_i hc
        rw [h args s hs hc]
        rw [opq_eq] at h'
        cases h0 : cdec ((r s).2 = 0) with
        | true =>
          rw [h0, branch_true] at h'
          rw [piA, cdec_iff.mp h0]; exact h'
        | false =>
          rw [h0, branch_false] at h'
          cases h1 : cdec ((r s).2 = 1) with
          | true =>
            rw [h1, branch_true] at h'
            rw [piA, cdec_iff.mp h1]; exact h'
          | false =>
            rw [h1, branch_false] at h'
            cases h2 : cdec ((r s).2 = 2) with
            | true =>
              rw [h2, branch_true] at h'
              rw [piA, cdec_iff.mp h2]; exact h'
            | false => rw [h2, branch_false] at h'; cases h'
      · cases h'
    · cases h'
theorem piA_frz (x : Int × Nat) : frz (piA x) = piA x := by
  show AV.tup [_, frz.frz1 (errA _)] = _
  rw [errA_frz]; rfl
noncomputable def p79r : POrc Tryd.prog := f79.pureIf decP (fun s => [.str s, .int .i64 10, .int .i64 0]) decP_enc (fun s => cdec (s.size ≤ 100000)) (fun s => piA (piF (strL s))) (fun s _ => ⟨piA_frz _, fun _ _ => ⟨trivial, errA_scoped _ _ _, trivial⟩⟩) fun s h => ⟨0, fun st => pi_eq s (cdec_iff.mp h) st⟩
noncomputable def p79 : POrc Tryd.prog := kOf p79r decP (fun s => piF (strL s)) fun args s hd hp k => by simp only [p79r, Fun.pureIf, hd, hp]
end Go.Proofs.YtcfedmheblbdnaaDoor.V

/- The functions' pieces, as told by gen.py. -/
set_option linter.unusedVariables false
set_option maxRecDepth 20000
namespace Go.Proofs.YtcfedmheblbdnaaDoor.V
open Go Go.V Go.RowKit


/-! ### 70: internal/strconv.Atoi (9); results 2, 3; slots: 0 s, 1 s, 4 sLen, 5 s0, 6 n, 7 _, 8 ch, 9 i64, 10 err -/
/-- A loop's round; at its head live: 5 s0, 6 n, 47 , 48 , 49  -/
noncomputable def f70_l0 : Sim Tryd.prog :=
 (.seq (.live [5, 6, 47, 48, 49, 50] (.region 10 [
 ⟨(opBin (some 50) .lss 3 (.tmp 49) (.tmp 48) 3 0 "atoi.go:231" #[]).op, none⟩
 ] (by kernel_rfl)))
 (.seq (.cond (.tmp 50)
 .skip
 (.live [5, 6] (.exit 0)))
 (.seq (.block 1 (.seq (.live [5, 6, 8, 47, 48, 49] (.region 11 [
 ⟨(opIndexAddrT (some 51) 46 (.tmp 47) (.tmp 49) 5 1 Tryd.underlying46 sz5 0 "atoi.go:231" #[]).op, none⟩,
 ⟨(opLoadT (.one (.int .u8)) (some 52) 5 (.tmp 51) (.int .u8) Tryd.underlying5 1 sz5 (by kernel_rfl) 5 "atoi.go:231" #[eD 0]).op, none⟩,
 ⟨(opAssign (some 8) (.tmp 52) 5 "atoi.go:231" #[eD 1, eP 0, eP 1]).op, none⟩
 ] (by kernel_rfl)))
 (.seq (.live [5, 6, 8, 47, 48, 49] (.region 12 [
 ⟨(opMove (some 53) (.tmp 8) 5 "atoi.go:232" #[]).op, none⟩,
 ⟨(opBin (some 54) .sub 5 (.tmp 53) (.const (Value.int IntKind.u8 48)) 5 5 "atoi.go:232" #[eD 0]).op, none⟩,
 ⟨(opAssign (some 8) (.tmp 54) 5 "atoi.go:232" #[eD 1, eP 0, eP 1]).op, none⟩
 ] (by kernel_rfl)))
 (.seq (.seq (.live [5, 6, 8, 47, 48, 49, 56] (.region 13 [
 ⟨(opMove (some 55) (.tmp 8) 5 "atoi.go:233" #[]).op, none⟩,
 ⟨(opBin (some 56) .gtr 5 (.tmp 55) (.const (Value.int IntKind.u8 9)) 5 4 "atoi.go:233" #[eD 0]).op, none⟩
 ] (by kernel_rfl)))
 (.cond (.tmp 56)
 (.seq (.live [2, 3] (.region 14 [
 ⟨(opMakeIface (some 57) 99 (.const (Value.int IntKind.i64 2)) (.int .i64) Tryd.underlying99 (by kernel_rfl) 73 "atoi.go:234" #[{ on := 1, ground := (Ground.gcOnly Departure.lateStores) }]).op, none⟩,
 ⟨(opAssign (some 2) (.const (Value.int IntKind.i64 0)) 3 "atoi.go:234" #[{ on := 0, ground := (Ground.textOnly Departure.lateStores) }]).op, none⟩,
 ⟨(opAssign (some 3) (.tmp 57) 73 "atoi.go:234" #[eD 0, eC 1, eP 0, eP 1]).op, none⟩
 ] (by kernel_rfl)))
 (.live [2, 3] .ret))
 .skip))
 (.live [5, 6, 47, 48, 49] (.region 15 [
 ⟨(opMove (some 58) (.tmp 6) 3 "atoi.go:236" #[]).op, none⟩,
 ⟨(opBin (some 59) .mul 3 (.tmp 58) (.const (Value.int IntKind.i64 10)) 3 3 "atoi.go:236" #[eD 0]).op, none⟩,
 ⟨(opMove (some 60) (.tmp 8) 5 "atoi.go:236" #[]).op, none⟩,
 ⟨(opConvInt (some 61) 5 3 (.tmp 60) (.int .u8) Tryd.underlying5 .i64 Tryd.underlying3 3 "atoi.go:236" #[eD 2]).op, none⟩,
 ⟨(opBin (some 62) .add 3 (.tmp 59) (.tmp 61) 3 3 "atoi.go:236" #[eD 1, eD 3]).op, none⟩,
 ⟨(opAssign (some 6) (.tmp 62) 3 "atoi.go:236" #[eD 4, eP 0, eP 1, eP 2, eP 3, eP 4]).op, none⟩
 ] (by kernel_rfl)))))))
 (.live [5, 6, 47, 48, 49] (.region 16 [
 ⟨(opBin (some 63) .add 3 (.tmp 49) (.const (Value.int IntKind.i64 1)) 3 3 "atoi.go:231" #[]).op, none⟩,
 ⟨(opMove (some 49) (.tmp 63) 3 "atoi.go:231" #[eD 0]).op, none⟩
 ] (by kernel_rfl))))))

/-- What follows a loop. -/
noncomputable def f70_r0 : Sim Tryd.prog :=
 (.seq (.seq (.live [6, 66] (.region 17 [
 ⟨(opMove (some 64) (.tmp 5) 9 "atoi.go:238" #[]).op, none⟩,
 ⟨(opIndexStrW (some 65) 9 (.tmp 64) (.const (Value.int IntKind.i64 0)) Tryd.underlying9 5 "atoi.go:238" #[eD 0]).op, none⟩,
 ⟨(opBin (some 66) .eql 5 (.tmp 65) (.const (Value.int IntKind.u8 45)) 5 4 "atoi.go:238" #[eD 1]).op, none⟩
 ] (by kernel_rfl)))
 (.cond (.tmp 66)
 (.live [6] (.region 18 [
 ⟨(opMove (some 67) (.tmp 6) 3 "atoi.go:239" #[]).op, none⟩,
 ⟨(opNeg (some 68) 3 (.tmp 67) 3 "atoi.go:239" #[eD 0]).op, none⟩,
 ⟨(opAssign (some 6) (.tmp 68) 3 "atoi.go:239" #[eD 1, eP 0, eP 1]).op, none⟩
 ] (by kernel_rfl)))
 .skip))
 (.seq (.live [2, 3] (.region 19 [
 ⟨(opMove (some 69) (.tmp 6) 3 "atoi.go:241" #[]).op, none⟩,
 ⟨(opAssign (some 2) (.tmp 69) 3 "atoi.go:241" #[eD 0, eP 0]).op, none⟩,
 ⟨(opAssign (some 3) (.const Value.nilIface) 73 "atoi.go:241" #[eC 1, eP 0, eP 1]).op, none⟩
 ] (by kernel_rfl)))
 (.live [2, 3] .ret)))

/-- What follows a loop. -/
noncomputable def f70_r1 : Sim Tryd.prog :=
 (.seq (.live [9, 10] (.region 20 [
 ⟨(opMove (some 71) (.tmp 0) 9 "atoi.go:245" #[]).op, none⟩,
 ⟨(opCallP p79 (some 72) [(.tmp 71), (.const (Value.int IntKind.i64 10)), (.const (Value.int IntKind.i64 0))] #[9, 3, 3] 100 "atoi.go:245" #[eD 0]).op, none⟩,
 ⟨(opMove (some 70) (.tmp 72) 100 "atoi.go:245" #[eD 1]).op, none⟩,
 ⟨(opExtract (some 73) (.tmp 70) 0 2 "atoi.go:245" #[eD 2]).op, none⟩,
 ⟨(opExtract (some 74) (.tmp 70) 1 73 "atoi.go:245" #[eD 2, { on := 5, ground := (Ground.gcOnly Departure.lateStores) }]).op, none⟩,
 ⟨(opAssign (some 9) (.tmp 73) 2 "atoi.go:245" #[eD 3, eC 1, eP 0, eP 1, eP 2, eP 3, { on := 4, ground := (Ground.textOnly Departure.lateStores) }]).op, none⟩,
 ⟨(opAssign (some 10) (.tmp 74) 73 "atoi.go:245" #[eD 4, eC 5, eP 0, eP 1, eP 2, eP 3, eP 4, eP 5]).op, none⟩
 ] (by kernel_rfl)))
 (.seq (.live [2, 3] (.region 21 [
 ⟨(opMove (some 75) (.tmp 9) 2 "atoi.go:246" #[]).op, none⟩,
 ⟨(opMove (some 76) (.tmp 10) 73 "atoi.go:246" #[{ on := 2, ground := (Ground.gcOnly Departure.lateStores) }]).op, none⟩,
 ⟨(opAssign (some 2) (.tmp 75) 3 "atoi.go:246" #[eD 0, eP 0, { on := 1, ground := (Ground.textOnly Departure.lateStores) }]).op, none⟩,
 ⟨(opAssign (some 3) (.tmp 76) 73 "atoi.go:246" #[eD 1, eC 2, eP 0, eP 1, eP 2]).op, none⟩
 ] (by kernel_rfl)))
 (.live [2, 3] .ret)))

noncomputable def f70_b : Sim Tryd.prog :=
 (.seq (.live [0] (.region 0 [
 ⟨(opAssign (some 2) (.const (Value.int IntKind.i64 0)) 3 "atoi.go:215" #[]).op, none⟩,
 ⟨(opAssign (some 3) (.const Value.nilIface) 73 "atoi.go:215" #[eC 0]).op, none⟩
 ] (by kernel_rfl)))
 (.seq (.live [0, 4] (.region 1 [
 ⟨(opMove (some 11) (.tmp 0) 9 "atoi.go:218" #[]).op, none⟩,
 ⟨(opLen (some 12) (.tmp 11) 9 .string Tryd.underlying9 3 "atoi.go:218" #[eD 0]).op, none⟩,
 ⟨(opAssign (some 4) (.tmp 12) 3 "atoi.go:218" #[eD 1, eP 0, eP 1]).op, none⟩
 ] (by kernel_rfl)))
 (.seq (.seq (.live [0, 30] (.region 2 [
 ⟨(opMove (some 13) (.const (Value.bool false)) 4 "atoi.go:219" #[]).op, none⟩,
 ⟨(opMove (some 14) (.tmp 4) 3 "atoi.go:219" #[eG 0]).op, (some (0, 13, true))⟩,
 ⟨(opBin (some 15) .lss 3 (.const (Value.int IntKind.i64 0)) (.tmp 14) 3 4 "atoi.go:219" #[eD 1, eG 0]).op, (some (0, 13, true))⟩,
 ⟨(opMove (some 16) (.tmp 15) 4 "atoi.go:219" #[eD 2, eC 0, eG 0]).op, (some (0, 13, true))⟩,
 ⟨(opMove (some 17) (.tmp 4) 3 "atoi.go:219" #[eG 3]).op, (some (3, 16, true))⟩,
 ⟨(opBin (some 18) .lss 3 (.tmp 17) (.const (Value.int IntKind.i64 10)) 3 4 "atoi.go:219" #[eD 4, eG 3]).op, (some (3, 16, true))⟩,
 ⟨(opPick (some 19) (.tmp 16) (.tmp 18) (.const (Value.bool false)) 4 "atoi.go:219" #[eD 3, eD 5, eG 0]).op, (some (0, 13, true))⟩,
 ⟨(opPick (some 20) (.tmp 13) (.tmp 19) (.const (Value.bool false)) 4 "atoi.go:219" #[eD 0, eD 6]).op, none⟩,
 ⟨(opMove (some 21) (.tmp 20) 4 "atoi.go:219" #[eD 7, eC 3]).op, none⟩,
 ⟨(opMove (some 22) (.const (Value.bool true)) 4 "atoi.go:219" #[eC 8, eG 8]).op, (some (8, 21, false))⟩,
 ⟨(opMove (some 23) (.tmp 4) 3 "atoi.go:219" #[eG 9]).op, (some (9, 22, true))⟩,
 ⟨(opBin (some 24) .lss 3 (.const (Value.int IntKind.i64 0)) (.tmp 23) 3 4 "atoi.go:219" #[eD 10, eG 9]).op, (some (9, 22, true))⟩,
 ⟨(opMove (some 25) (.tmp 24) 4 "atoi.go:219" #[eD 11, eC 9, eG 9]).op, (some (9, 22, true))⟩,
 ⟨(opMove (some 26) (.tmp 4) 3 "atoi.go:219" #[eG 12]).op, (some (12, 25, true))⟩,
 ⟨(opBin (some 27) .lss 3 (.tmp 26) (.const (Value.int IntKind.i64 19)) 3 4 "atoi.go:219" #[eD 13, eG 12]).op, (some (12, 25, true))⟩,
 ⟨(opPick (some 28) (.tmp 25) (.tmp 27) (.const (Value.bool false)) 4 "atoi.go:219" #[eD 12, eD 14, eG 9]).op, (some (9, 22, true))⟩,
 ⟨(opPick (some 29) (.tmp 22) (.tmp 28) (.const (Value.bool false)) 4 "atoi.go:219" #[eD 9, eD 15, eG 8]).op, (some (8, 21, false))⟩,
 ⟨(opPick (some 30) (.tmp 21) (.const (Value.bool true)) (.tmp 29) 4 "atoi.go:219" #[eD 8, eD 16]).op, none⟩
 ] (by kernel_rfl)))
 (.cond (.tmp 30)
 (.seq (.live [0, 5] (.region 3 [
 ⟨(opMove (some 31) (.tmp 0) 9 "atoi.go:222" #[]).op, none⟩,
 ⟨(opAssign (some 5) (.tmp 31) 9 "atoi.go:222" #[eD 0, eP 0]).op, none⟩
 ] (by kernel_rfl)))
 (.seq (.seq (.live [0, 5, 39] (.region 4 [
 ⟨(opMove (some 32) (.tmp 0) 9 "atoi.go:223" #[]).op, none⟩,
 ⟨(opIndexStrW (some 33) 9 (.tmp 32) (.const (Value.int IntKind.i64 0)) Tryd.underlying9 5 "atoi.go:223" #[eD 0]).op, none⟩,
 ⟨(opBin (some 34) .eql 5 (.tmp 33) (.const (Value.int IntKind.u8 45)) 5 4 "atoi.go:223" #[eD 1]).op, none⟩,
 ⟨(opMove (some 35) (.tmp 34) 4 "atoi.go:223" #[eD 2]).op, none⟩,
 ⟨(opMove (some 36) (.tmp 0) 9 "atoi.go:223" #[eG 3]).op, (some (3, 35, false))⟩,
 ⟨(opIndexStrW (some 37) 9 (.tmp 36) (.const (Value.int IntKind.i64 0)) Tryd.underlying9 5 "atoi.go:223" #[eD 4, eG 3]).op, (some (3, 35, false))⟩,
 ⟨(opBin (some 38) .eql 5 (.tmp 37) (.const (Value.int IntKind.u8 43)) 5 4 "atoi.go:223" #[eD 5, eG 3]).op, (some (3, 35, false))⟩,
 ⟨(opPick (some 39) (.tmp 35) (.const (Value.bool true)) (.tmp 38) 4 "atoi.go:223" #[eD 3, eD 6]).op, none⟩
 ] (by kernel_rfl)))
 (.cond (.tmp 39)
 (.seq (.live [0, 5] (.region 5 [
 ⟨(opMove (some 40) (.tmp 0) 9 "atoi.go:224" #[]).op, none⟩,
 ⟨(opSliceStrW (some 41) 9 (.tmp 40) (some (.const (Value.int IntKind.i64 1))) none Tryd.underlying9 9 "atoi.go:224" #[eD 0]).op, none⟩,
 ⟨(opAssign (some 0) (.tmp 41) 9 "atoi.go:224" #[eD 1, eP 0, eP 1]).op, none⟩
 ] (by kernel_rfl)))
 (.seq (.live [0, 5, 44] (.region 6 [
 ⟨(opMove (some 42) (.tmp 0) 9 "atoi.go:225" #[]).op, none⟩,
 ⟨(opLen (some 43) (.tmp 42) 9 .string Tryd.underlying9 3 "atoi.go:225" #[eD 0]).op, none⟩,
 ⟨(opBin (some 44) .lss 3 (.tmp 43) (.const (Value.int IntKind.i64 1)) 3 4 "atoi.go:225" #[eD 1]).op, none⟩
 ] (by kernel_rfl)))
 (.cond (.tmp 44)
 (.seq (.live [2, 3] (.region 7 [
 ⟨(opMakeIface (some 45) 99 (.const (Value.int IntKind.i64 2)) (.int .i64) Tryd.underlying99 (by kernel_rfl) 73 "atoi.go:226" #[{ on := 1, ground := (Ground.gcOnly Departure.lateStores) }]).op, none⟩,
 ⟨(opAssign (some 2) (.const (Value.int IntKind.i64 0)) 3 "atoi.go:226" #[{ on := 0, ground := (Ground.textOnly Departure.lateStores) }]).op, none⟩,
 ⟨(opAssign (some 3) (.tmp 45) 73 "atoi.go:226" #[eD 0, eC 1, eP 0, eP 1]).op, none⟩
 ] (by kernel_rfl)))
 (.live [2, 3] .ret))
 .skip)))
 .skip))
 (.seq (.live [0, 5, 6] (.region 8 [
 ⟨(opAssign (some 6) (.const (Value.int IntKind.i64 0)) 3 "atoi.go:230" #[]).op, none⟩
 ] (by kernel_rfl)))
 (.seq (.seq (.live [5, 6, 47, 48, 49] (.region 9 [
 ⟨(opMove (some 46) (.tmp 0) 9 "atoi.go:231" #[]).op, none⟩,
 ⟨(opStrBytes (some 47) 9 46 (.tmp 46) 5 Tryd.underlying9 Tryd.underlying46 Tryd.underlying5 46 "atoi.go:231" #[eD 0]).op, none⟩,
 ⟨(opLen (some 48) (.tmp 47) 46 (.slice 5) Tryd.underlying46 3 "atoi.go:231" #[eD 1]).op, none⟩,
 ⟨(opMove (some 49) (.const (Value.int IntKind.i64 0)) 3 "atoi.go:231" #[]).op, none⟩
 ] (by kernel_rfl)))
 (.block 0 (.loop [5, 6, 47, 48, 49] f70_l0)))
 f70_r0))))
 .skip))
 f70_r1)))

noncomputable def f70 : Fun Tryd.prog where
 id := 70
 fn := Tryd.f70
 hf := Tryd.func70
 hname := by kernel_rfl
 body := f70_b
 hbody := by kernel_rfl
 res := [rTmp 2, rTmp 3]
 hres := by kernel_rfl
 n := 77
 hn := by kernel_rfl

end Go.Proofs.YtcfedmheblbdnaaDoor.V

/- What the functions' runs come to; the right sides were printed by a tool, Lean checks them. -/
set_option linter.unusedVariables false
set_option maxRecDepth 100000
namespace Go.Proofs.YtcfedmheblbdnaaDoor.V
open Go Go.V Go.RowKit

theorem at_run (F : Nat) (s : ByteArray) (st : St) :
 (f70.run F [.str s] st : Ans) =
 branch (AV.bool (decide ((0 : Int) < (↑s.size : Int))))
 (branch (AV.bool (decide ((↑s.size : Int) < (19 : Int))))
 (branch (AV.bool (inT s (0 : Int)))
 (branch (AV.bool (atT s (0 : Int) == (45 : Int)))
 (branch (AV.bool (inSl s (1 : Int) (↑s.size : Int)))
 (branch (AV.bool (decide ((↑(subT s (1 : Int) (↑s.size : Int)).size : Int) < (1 : Int))))
 (some
 (Fin.ret (AV.tup [AV.int IntKind.i64 (0 : Int), AV.ifc 99 (AV.int IntKind.i64 (2 : Int))]), st))
 (loopRun (f70_l0.run F) [5, 6, 47, 48, 49]
 (Cont.block 0
 (Cont.then (f70_r0.run F (Cont.then (f70_r1.run F (f70.leaveK Fun.done)) (f70.leaveK Fun.done)))
 (Cont.then (f70_r1.run F (f70.leaveK Fun.done)) (f70.leaveK Fun.done))))
 F
 (Env.mk 77
 [(5, AV.str s), (6, AV.int IntKind.i64 (0 : Int)),
 (47, AV.sl 1 false (rowsOfStr (subT s (1 : Int) (↑s.size : Int)))),
 (48, AV.int IntKind.i64 (↑(rowsOfStr (subT s (1 : Int) (↑s.size : Int))).length : Int)),
 (49, AV.int IntKind.i64 (0 : Int))])
 st))
 none)
 (branch (AV.bool (inT s (0 : Int)))
 (branch (AV.bool (atT s (0 : Int) == (43 : Int)))
 (branch (AV.bool (inSl s (1 : Int) (↑s.size : Int)))
 (branch (AV.bool (decide ((↑(subT s (1 : Int) (↑s.size : Int)).size : Int) < (1 : Int))))
 (some
 (Fin.ret (AV.tup [AV.int IntKind.i64 (0 : Int), AV.ifc 99 (AV.int IntKind.i64 (2 : Int))]),
 st))
 (loopRun (f70_l0.run F) [5, 6, 47, 48, 49]
 (Cont.block 0
 (Cont.then (f70_r0.run F (Cont.then (f70_r1.run F (f70.leaveK Fun.done)) (f70.leaveK Fun.done)))
 (Cont.then (f70_r1.run F (f70.leaveK Fun.done)) (f70.leaveK Fun.done))))
 F
 (Env.mk 77
 [(5, AV.str s), (6, AV.int IntKind.i64 (0 : Int)),
 (47, AV.sl 1 false (rowsOfStr (subT s (1 : Int) (↑s.size : Int)))),
 (48, AV.int IntKind.i64 (↑(rowsOfStr (subT s (1 : Int) (↑s.size : Int))).length : Int)),
 (49, AV.int IntKind.i64 (0 : Int))])
 st))
 none)
 (loopRun (f70_l0.run F) [5, 6, 47, 48, 49]
 (Cont.block 0
 (Cont.then (f70_r0.run F (Cont.then (f70_r1.run F (f70.leaveK Fun.done)) (f70.leaveK Fun.done)))
 (Cont.then (f70_r1.run F (f70.leaveK Fun.done)) (f70.leaveK Fun.done))))
 F
 (Env.mk 77
 [(5, AV.str s), (6, AV.int IntKind.i64 (0 : Int)),
 (47, AV.sl 1 false (rowsOfStr s)),
 (48, AV.int IntKind.i64 (↑(rowsOfStr s).length : Int)),
 (49, AV.int IntKind.i64 (0 : Int))])
 st))
 none))
 none)
 (branch (AV.bool (cdec (s.size ≤ 100000)))
 (branch (AV.bool (cdec ((piF (strL s)).snd = 0)))
 (some (Fin.ret (AV.tup [AV.int IntKind.i64 (opq (piF (strL s)).fst), AV.nilif]), st))
 (branch (AV.bool (cdec ((piF (strL s)).snd = 1)))
 (some
 (Fin.ret
 (AV.tup
 [AV.int IntKind.i64 (opq (piF (strL s)).fst), AV.ifc 99 (AV.int IntKind.i64 (1 : Int))]),
 st))
 (branch (AV.bool (cdec ((piF (strL s)).snd = 2)))
 (some
 (Fin.ret
 (AV.tup
 [AV.int IntKind.i64 (opq (piF (strL s)).fst), AV.ifc 99 (AV.int IntKind.i64 (2 : Int))]),
 st))
 none)))
 none))
 (branch (AV.bool (cdec (s.size ≤ 100000)))
 (branch (AV.bool (cdec ((piF (strL s)).snd = 0)))
 (some (Fin.ret (AV.tup [AV.int IntKind.i64 (opq (piF (strL s)).fst), AV.nilif]), st))
 (branch (AV.bool (cdec ((piF (strL s)).snd = 1)))
 (some
 (Fin.ret
 (AV.tup [AV.int IntKind.i64 (opq (piF (strL s)).fst), AV.ifc 99 (AV.int IntKind.i64 (1 : Int))]),
 st))
 (branch (AV.bool (cdec ((piF (strL s)).snd = 2)))
 (some
 (Fin.ret
 (AV.tup
 [AV.int IntKind.i64 (opq (piF (strL s)).fst), AV.ifc 99 (AV.int IntKind.i64 (2 : Int))]),
 st))
 none)))
 none) := by kernel_rfl

theorem at_round (F m : Nat) (K : Cont) (s : AV) (n i : Int) (l : List (List AV)) (st : St) :
 (loopRun (f70_l0.run F) [5, 6, 47, 48, 49] K m.succ (Env.mk 77 [(5, s), (6, .int .i64 n), (47, .sl 1 false l), (48, .int .i64 (l.length : Int)), (49, .int .i64 i)]) st : Ans) =
 branch (AV.bool (decide (i < (↑l.length : Int))))
 (branch (AV.bool (inR l i))
 (branch (AV.bool ((LD.one (LT.int IntKind.u8)).is (V.rowAt l i)))
 (branch (AV.bool (decide (IntKind.u8.wrap (hdI (V.rowAt l i) - (48 : Int)) > (9 : Int))))
 (K AX.ret
 (Env.mk 77
 [(2, AV.int IntKind.i64 (0 : Int)), (3, AV.ifc 99 (AV.int IntKind.i64 (2 : Int)))])
 st)
 (loopRun (f70_l0.run F) [5, 6, 47, 48, 49] K m
 (Env.mk 77
 [(5, s),
 (6,
 AV.int IntKind.i64
 (IntKind.i64.wrap
 (IntKind.i64.wrap (n * (10 : Int)) +
 IntKind.i64.wrap (IntKind.u8.wrap (hdI (V.rowAt l i) - (48 : Int)))))),
 (47, AV.sl 1 false l), (48, AV.int IntKind.i64 (↑l.length : Int)),
 (49, AV.int IntKind.i64 (IntKind.i64.wrap (i + (1 : Int))))])
 st))
 none)
 none)
 (K (AX.exit 0) (Env.mk 77 [(5, s), (6, AV.int IntKind.i64 n)]) st) := by kernel_rfl

theorem at_out (F : Nat) (s : ByteArray) (n : Int) (st : St) :
 ((Cont.block 0 (Cont.then (f70_r0.run F (Cont.then (f70_r1.run F (f70.leaveK Fun.done)) (f70.leaveK Fun.done))) (Cont.then (f70_r1.run F (f70.leaveK Fun.done)) (f70.leaveK Fun.done)))) (.exit 0) (Env.mk 77 [(5, .str s), (6, .int .i64 n)]) st : Ans) =
 branch (AV.bool (inT s (0 : Int)))
 (branch (AV.bool (atT s (0 : Int) == (45 : Int)))
 (some (Fin.ret (AV.tup [AV.int IntKind.i64 (IntKind.i64.wrap ((0 : Int) - n)), AV.nilif]), st))
 (some (Fin.ret (AV.tup [AV.int IntKind.i64 n, AV.nilif]), st)))
 none := by kernel_rfl

theorem at_ret (F : Nat) (u e : AV) (st : St) :
 ((Cont.block 0 (Cont.then (f70_r0.run F (Cont.then (f70_r1.run F (f70.leaveK Fun.done)) (f70.leaveK Fun.done))) (Cont.then (f70_r1.run F (f70.leaveK Fun.done)) (f70.leaveK Fun.done)))) .ret (Env.mk 77 [(2, u), (3, e)]) st : Ans) =
 some (Fin.ret (AV.tup [u, e]), st) := by kernel_rfl

end Go.Proofs.YtcfedmheblbdnaaDoor.V

/- Values: the inner Atoi, as a callee. -/
set_option linter.unusedVariables false
namespace Go.Proofs.YtcfedmheblbdnaaDoor.V
open Go Go.V Go.RowKit

theorem puF_small : ∀ (t : List Nat) (n : Nat), (n + 1) * 10 ^ t.length ≤ 10 ^ 18 → ((puF t n).2 = 0 ∧ (puF t n).1 < 10 ^ 18) ∨ puF t n = (0, 2)
  | [], n, h => by left; rw [puF]; simp at h; exact ⟨rfl, by show n < 10 ^ 18; omega⟩
  | c :: r, n, h => by
    rw [puF]
    by_cases hd : 48 ≤ c ∧ c ≤ 57
    · have h2 : (n * 10 + (c - 48) + 1) * 10 ^ r.length ≤ 10 ^ 18 := by
        rw [List.length_cons, Nat.pow_succ] at h
        refine Nat.le_trans (Nat.mul_le_mul_right _ (show n * 10 + (c - 48) + 1 ≤ (n + 1) * 10 by omega)) ?_
        rw [Nat.mul_assoc, Nat.mul_comm 10]; exact h
      have h3 : n * 10 + (c - 48) + 1 ≤ 10 ^ 18 := Nat.le_trans (Nat.le_mul_of_pos_right _ (Nat.pow_pos (by omega))) h2
      rw [if_pos hd, if_neg (by omega)]
      exact puF_small r _ h2
    · rw [if_neg hd]; right; rfl
noncomputable def atK (F : Nat) : Cont := Cont.block 0 (Cont.then (f70_r0.run F (Cont.then (f70_r1.run F (f70.leaveK Fun.done)) (f70.leaveK Fun.done))) (Cont.then (f70_r1.run F (f70.leaveK Fun.done)) (f70.leaveK Fun.done)))
theorem at_all (F : Nat) (s : AV) (L : List Nat) (hb : ∀ b ∈ L, b < 256) (hl : L.length ≤ 18) (st : St) : ∀ (k i m n : Nat), i + k = L.length → k < m → (n + 1) * 10 ^ k ≤ 10 ^ 18 →
    loopRun (f70_l0.run F) [5, 6, 47, 48, 49] (atK F) m (Env.mk 77 [(5, s), (6, .int .i64 (n : Int)), (47, .sl 1 false (bR L)), (48, .int .i64 ((bR L).length : Int)), (49, .int .i64 (i : Int))]) st
      = if (puF (L.drop i) n).2 = 0 then atK F (.exit 0) (Env.mk 77 [(5, s), (6, .int .i64 ((puF (L.drop i) n).1 : Int))]) st else some (.ret (piA (0, 2)), st)
  | k, i, 0, n, _, h, _ => by omega
  | 0, i, m + 1, n, h, _, hn => by
    have hl2 := bR_length L
    rw [show m + 1 = m.succ from rfl, at_round, branch_not (decide_eq_false (by omega)), List.drop_eq_nil_of_le (by omega)]
    rfl
  | k + 1, i, m + 1, n, h, hm, hn => by
    have hl2 := bR_length L
    have hi : i < (bR L).length := by omega
    have hiL : i < L.length := by omega
    have hrow : (bR L)[i] = [.int .u8 ((L[i] : Nat) : Int)] := by simp [bR]
    have h256 := hb _ (List.getElem_mem hiL)
    have hw : IntKind.i64.wrap ((i : Int) + 1) = ((i + 1 : Nat) : Int) := by rw [wrapS (by omega) (by omega)]; omega
    rw [show m + 1 = m.succ from rfl, at_round, branch_of (decide_eq_true (by omega)), branch_of (inR_nat hi), rowAt_nat hi, hrow, branch_of (show (LD.one (LT.int IntKind.u8)).is [AV.int IntKind.u8 ((L[i] : Nat) : Int)] = true from rfl), hw, List.drop_eq_getElem_cons hiL, puF]
    rw [show hdI [AV.int IntKind.u8 ((L[i] : Nat) : Int)] = ((L[i] : Nat) : Int) from rfl]
    have ih := fun n' hn' => at_all F s L hb hl st k (i + 1) m n' (by omega) (by omega) hn'
    generalize L[i] = c at *
    by_cases hd : 48 ≤ c ∧ c ≤ 57
    · have h2 : (n * 10 + (c - 48) + 1) * 10 ^ k ≤ 10 ^ 18 := by
        rw [Nat.pow_succ] at hn
        refine Nat.le_trans (Nat.mul_le_mul_right _ (show n * 10 + (c - 48) + 1 ≤ (n + 1) * 10 by omega)) ?_
        rw [Nat.mul_assoc, Nat.mul_comm 10]; exact hn
      have h3 : n * 10 + (c - 48) + 1 ≤ 10 ^ 18 := Nat.le_trans (Nat.le_mul_of_pos_right _ (Nat.pow_pos (by omega))) h2
      have e1 : IntKind.u8.wrap ((c : Int) - 48) = ((c - 48 : Nat) : Int) := by rw [show (c : Int) - 48 = ((c - 48 : Nat) : Int) by omega]; exact w8 (by omega)
      rw [if_pos hd, if_neg (show ¬ (1844674407370955162 ≤ n ∨ 18446744073709551616 ≤ n * 10 + (c - 48)) by omega), e1, branch_not (decide_eq_false (by omega)), wrapS (n := (n : Int) * 10) (by omega) (by omega), wrapS (n := ((c - 48 : Nat) : Int)) (by omega) (by omega), wrapS (by omega) (by omega),
        show (n : Int) * 10 + ((c - 48 : Nat) : Int) = ((n * 10 + (c - 48) : Nat) : Int) by omega]
      exact ih _ h2
    · have e1 : IntKind.u8.wrap ((c : Int) - 48) > 9 := by
        by_cases h48 : 48 ≤ c
        · rw [show (c : Int) - 48 = ((c - 48 : Nat) : Int) by omega, w8 (by omega)]; omega
        · unfold IntKind.wrap
          simp only [IntKind.signed, IntKind.bits]
          simp
          omega
      rw [if_neg hd, branch_of (decide_eq_true e1), atK, at_ret]
      rfl
theorem piF_le (L : List Nat) : (piF L).2 = 0 ∨ (piF L).2 = 1 ∨ (piF L).2 = 2 := by
  have hp : ∀ x, (posF x).2 = 0 ∨ (posF x).2 = 1 ∨ (posF x).2 = 2 := fun x => by
    unfold posF
    split
    · exact .inr (.inr rfl)
    · split
      · exact .inr (.inl rfl)
      · exact .inl rfl
  have hn : ∀ x, (negF x).2 = 0 ∨ (negF x).2 = 1 ∨ (negF x).2 = 2 := fun x => by
    unfold negF
    split
    · exact .inr (.inr rfl)
    · split
      · exact .inr (.inl rfl)
      · exact .inl rfl
  cases L with
  | nil => simp [piF]
  | cons c r =>
    rw [piF]
    split
    · exact hp _
    · split
      · exact hn _
      · exact hp _
theorem three (x : Int × Nat) (h : x.2 = 0 ∨ x.2 = 1 ∨ x.2 = 2) (st : St) :
    (branch (AV.bool (cdec (x.snd = 0))) (some (Fin.ret (AV.tup [AV.int IntKind.i64 (opq x.fst), AV.nilif]), st))
      (branch (AV.bool (cdec (x.snd = 1))) (some (Fin.ret (AV.tup [AV.int IntKind.i64 (opq x.fst), AV.ifc 99 (AV.int IntKind.i64 (1 : Int))]), st))
        (branch (AV.bool (cdec (x.snd = 2))) (some (Fin.ret (AV.tup [AV.int IntKind.i64 (opq x.fst), AV.ifc 99 (AV.int IntKind.i64 (2 : Int))]), st)) none)) : Ans) = some (.ret (piA x), st) := by
  obtain ⟨n, e⟩ := x
  simp only at h ⊢
  rw [opq_eq]
  rcases h with rfl | rfl | rfl
  · rw [branch_of (cdec_iff.mpr rfl)]; rfl
  · rw [branch_not (by rw [Bool.eq_false_iff, ne_eq, cdec_iff]; decide), branch_of (cdec_iff.mpr rfl)]; rfl
  · rw [branch_not (by rw [Bool.eq_false_iff, ne_eq, cdec_iff]; decide), branch_not (by rw [Bool.eq_false_iff, ne_eq, cdec_iff]; decide), branch_of (cdec_iff.mpr rfl)]; rfl
theorem atoi_eq (s : ByteArray) (hs : s.size ≤ 100000) (st : St) : f70.run 20 [.str s] st = some (.ret (piA (piF (strL s))), st) := by
  have hsz := strL_size s
  rw [at_run]
  by_cases h0 : (0 : Int) < (s.size : Int)
  · rw [branch_of (decide_eq_true h0)]
    by_cases h19 : (s.size : Int) < 19
    · rw [branch_of (decide_eq_true h19)]
      cases hl : strL s with
      | nil => exact absurd (show s.size = 0 by rw [hsz, hl]; rfl) (by omega)
      | cons c r =>
        obtain ⟨h1, h2, h3, h4⟩ := tail_text hl
        have hsl : (subT s (1 : Int) (s.size : Int)).size = r.length := by rw [strL_size, h4]
        rw [hl, List.length_cons] at hsz
        have hbr : ∀ b ∈ r, b < 256 := fun b hb => strL_lt s b (by rw [hl]; exact List.mem_cons_of_mem _ hb)
        have rows : rowsOfStr (subT s (1 : Int) (s.size : Int)) = bR r := by rw [← h4]; exact strL_rows _
        have loop : ∀ L : List Nat, (∀ b ∈ L, b < 256) → L ≠ [] → L.length ≤ 18 → loopRun (f70_l0.run 20) [5, 6, 47, 48, 49] (atK 20) 20 (Env.mk 77 [(5, .str s), (6, .int .i64 (0 : Int)), (47, .sl 1 false (bR L)), (48, .int .i64 ((bR L).length : Int)), (49, .int .i64 (0 : Int))]) st
            = some (.ret (piA (if c = 45 then negF (puL L) else posF (puL L))), st) := by
          intro L hb hne hlen
          have hp : (0 + 1) * 10 ^ L.length ≤ 10 ^ 18 := by rw [Nat.zero_add, Nat.one_mul]; exact Nat.pow_le_pow_right (by omega) hlen
          have := at_all 20 (.str s) L hb hlen st L.length 0 20 0 (by omega) (by omega) hp
          rw [List.drop_zero] at this
          refine this.trans ?_
          rw [puL, if_neg hne]
          rcases puF_small L 0 hp with ⟨e1, e2⟩ | e1
          · rw [if_pos e1, atK, at_out, branch_of h1, h2]
            generalize puF L 0 = x at *
            obtain ⟨v, e⟩ := x
            simp only at e1 e2
            subst e1
            by_cases c45 : c = 45
            · rw [branch_of (show (((c : Nat) : Int) == 45) = true by rw [beq_iff_eq]; omega), if_pos c45, negF, if_neg (show ¬ (0 : Nat) = 2 by decide), if_neg (show ¬ 9223372036854775808 < v by omega)]
              simp only
              rw [wrapS (by omega) (by omega), Int.zero_sub]; rfl
            · rw [branch_not (show (((c : Nat) : Int) == 45) = false by rw [beq_eq_false_iff_ne]; omega), if_neg c45, posF, if_neg (show ¬ (0 : Nat) = 2 by decide), if_neg (show ¬ 9223372036854775808 ≤ v by omega)]; rfl
          · rw [e1, if_neg (by decide)]
            by_cases c45 : c = 45
            · rw [if_pos c45]; rfl
            · rw [if_neg c45]; rfl
        rw [branch_of h1, h2, piF]
        by_cases c45 : c = 45
        · rw [branch_of (show (((c : Nat) : Int) == 45) = true by rw [beq_iff_eq]; omega), branch_of h3, hsl, if_neg (by omega), if_pos c45]
          by_cases hr : r = []
          · subst hr; rw [branch_of (by rfl)]; rfl
          · have : r.length ≠ 0 := fun e => hr (List.eq_nil_of_length_eq_zero e)
            rw [branch_not (decide_eq_false (by omega)), rows]
            refine (loop r hbr hr (by omega)).trans ?_
            rw [if_pos c45]
        · rw [branch_not (show (((c : Nat) : Int) == 45) = false by rw [beq_eq_false_iff_ne]; omega), branch_of h1]
          by_cases c43 : c = 43
          · rw [branch_of (show (((c : Nat) : Int) == 43) = true by rw [beq_iff_eq]; omega), branch_of h3, hsl, if_pos c43]
            by_cases hr : r = []
            · subst hr; rw [branch_of (by rfl)]; rfl
            · have : r.length ≠ 0 := fun e => hr (List.eq_nil_of_length_eq_zero e)
              rw [branch_not (decide_eq_false (by omega)), rows]
              refine (loop r hbr hr (by omega)).trans ?_
              rw [if_neg c45]
          · have rows0 : rowsOfStr s = bR (c :: r) := by rw [← hl]; exact strL_rows _
            rw [branch_not (show (((c : Nat) : Int) == 43) = false by rw [beq_eq_false_iff_ne]; omega), rows0, if_neg c43, if_neg c45]
            refine (loop (c :: r) (fun b hb => strL_lt s b (by rw [hl]; exact hb)) (by simp) (by simp; omega)).trans ?_
            rw [if_neg c45]
    · rw [branch_not (decide_eq_false h19), branch_of (cdec_iff.mpr hs)]
      exact three _ (piF_le _) st
  · rw [branch_not (decide_eq_false h0), branch_of (cdec_iff.mpr hs)]
    exact three _ (piF_le _) st
noncomputable def p70r : POrc Tryd.prog := f70.pureIf dec1s (fun s => [.str s]) dec1s_enc (fun s => cdec (s.size ≤ 100000)) (fun s => piA (piF (strL s))) (fun s _ => ⟨piA_frz _, fun _ _ => ⟨trivial, errA_scoped _ _ _, trivial⟩⟩) fun s h => ⟨20, fun st => atoi_eq s (cdec_iff.mp h) st⟩
noncomputable def p70 : POrc Tryd.prog := kOf p70r dec1s (fun s => piF (strL s)) fun args s hd hp k => by simp only [p70r, Fun.pureIf, hd, hp]
end Go.Proofs.YtcfedmheblbdnaaDoor.V
