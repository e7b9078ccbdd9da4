/- What the functions' runs come to; the right sides were printed by a tool, Lean checks them. -/
import Derived.Test.YtjdpfblmhahfkaaB0
set_option linter.unusedVariables false
set_option maxRecDepth 100000
namespace Go.Proofs.Ytjdpfblmhahfkaa.V
open Go Go.V Go.RowKit

theorem fold_run (n : Int) (st : St) :
    (f36.run 0 [.int .i64 n] st : Ans) =
    some
      (Fin.ret
          (AV.int IntKind.u64
            (bitsI BinOp.xor IntKind.u64 (IntKind.u64.wrap (IntKind.u64.wrap n * 2))
              (IntKind.u64.wrap (n.fdiv 9223372036854775808)))),
        st) := by kernel_rfl

theorem unfold_run (u : Int) (st : St) :
    (f35.run 0 [.int .u64 u] st : Ans) =
    some
      (Fin.ret
          (AV.int IntKind.i64
            (bitsI BinOp.xor IntKind.i64 (IntKind.i64.wrap (u.fdiv 2))
              (IntKind.i64.wrap (0 - IntKind.i64.wrap (bitsI BinOp.and IntKind.u64 u 1))))),
        st) := by kernel_rfl

theorem digits_run (F : Nat) (f : Bool) (l : List (List AV)) (st : St) :
    (f33.run F [.sl 1 f l] st : Ans) =
    if 0 ≤ leastI false (↑l.length : Int) 10 ∧ leastI false (↑l.length : Int) 10 ≤ (↑l.length : Int) then
      loopRun (f33_l0.run F) [4, 12, 13, 14]
        (Cont.block 0 (Cont.then (f33_r0.run F (f33.leaveK Fun.done)) (f33.leaveK Fun.done))) F
        (Env.mk 46
          [(4, AV.int IntKind.u64 0),
            (12,
              AV.sl 1 (f && (leastI false (↑l.length : Int) 10).toNat.beq l.length)
                (List.drop 0 (List.take (leastI false (↑l.length : Int) 10).toNat l))),
            (13, AV.int IntKind.i64 (↑(List.drop 0 (List.take (leastI false (↑l.length : Int) 10).toNat l)).length : Int)),
            (14, AV.int IntKind.i64 0)])
        st
    else none := by kernel_rfl

theorem digits_nil (F : Nat) (st : St) :
    (f33.run F.succ [.nilsl] st : Ans) =
    some (Fin.ret (AV.tup [AV.int IntKind.u64 0, AV.int IntKind.i64 0]), st) := by kernel_rfl

theorem digits_round_raw (F n : Nat) (K : Cont) (u i c : Int) (f : Bool) (l : List (List AV)) (st : St) :
    (loopRun (f33_l0.run F) [4, 12, 13, 14] K n.succ (Env.mk 46 [(4, .int .u64 u), (12, .sl 1 f l), (13, .int .i64 l.length), (14, .int .i64 i)]) st : Ans) =
    branch (AV.bool (decide (i < (↑l.length : Int))))
      (onSome (elemAt l i) none fun (o : List AV) =>
        onCons o none fun (x : AV) (l_1 : List AV) =>
          onInt x fun (a : IntKind) (a_1 : Int) =>
            if a = IntKind.u8 then
              branch (AV.bool (i == 9))
                (branch (AV.bool (decide (IntKind.u64.wrap (bitsI BinOp.andNot a a_1 128) > 1)))
                  (K AX.ret (Env.mk 46 [(2, AV.int IntKind.u64 0), (3, AV.int IntKind.i64 0)]) st)
                  (if 0 ≤ IntKind.i64.wrap (7 * i) then
                    onInt x fun (a_2 : IntKind) (a_3 : Int) =>
                      if a_2 = IntKind.u8 then
                        branch (AV.bool (decide (a_3 < 128)))
                          (branch (AV.bool (IntKind.u64.wrap (bitsI BinOp.andNot a a_1 128) == 0))
                            (branch (AV.bool (decide (i > 0)))
                              (K AX.ret (Env.mk 46 [(2, AV.int IntKind.u64 0), (3, AV.int IntKind.i64 0)]) st)
                              (K AX.ret
                                (Env.mk 46
                                  [(2,
                                      AV.int IntKind.u64
                                        (bitsI BinOp.or IntKind.u64 u
                                          (IntKind.u64.wrap
                                            (IntKind.u64.wrap (bitsI BinOp.andNot a a_1 128) *
                                              2 ^ min (IntKind.i64.wrap (7 * i)).toNat 64)))),
                                    (3, AV.int IntKind.i64 (IntKind.i64.wrap (i + 1)))])
                                st))
                            (K AX.ret
                              (Env.mk 46
                                [(2,
                                    AV.int IntKind.u64
                                      (bitsI BinOp.or IntKind.u64 u
                                        (IntKind.u64.wrap
                                          (IntKind.u64.wrap (bitsI BinOp.andNot a a_1 128) *
                                            2 ^ min (IntKind.i64.wrap (7 * i)).toNat 64)))),
                                  (3, AV.int IntKind.i64 (IntKind.i64.wrap (i + 1)))])
                              st))
                          (loopRun (f33_l0.run F) [4, 12, 13, 14] K n
                            (Env.mk 46
                              [(4,
                                  AV.int IntKind.u64
                                    (bitsI BinOp.or IntKind.u64 u
                                      (IntKind.u64.wrap
                                        (IntKind.u64.wrap (bitsI BinOp.andNot a a_1 128) *
                                          2 ^ min (IntKind.i64.wrap (7 * i)).toNat 64)))),
                                (12, AV.sl 1 f l), (13, AV.int IntKind.i64 (↑l.length : Int)),
                                (14, AV.int IntKind.i64 (IntKind.i64.wrap (i + 1)))])
                            st)
                      else none
                  else none))
                (if 0 ≤ IntKind.i64.wrap (7 * i) then
                  onInt x fun (a_2 : IntKind) (a_3 : Int) =>
                    if a_2 = IntKind.u8 then
                      branch (AV.bool (decide (a_3 < 128)))
                        (branch (AV.bool (IntKind.u64.wrap (bitsI BinOp.andNot a a_1 128) == 0))
                          (branch (AV.bool (decide (i > 0)))
                            (K AX.ret (Env.mk 46 [(2, AV.int IntKind.u64 0), (3, AV.int IntKind.i64 0)]) st)
                            (K AX.ret
                              (Env.mk 46
                                [(2,
                                    AV.int IntKind.u64
                                      (bitsI BinOp.or IntKind.u64 u
                                        (IntKind.u64.wrap
                                          (IntKind.u64.wrap (bitsI BinOp.andNot a a_1 128) *
                                            2 ^ min (IntKind.i64.wrap (7 * i)).toNat 64)))),
                                  (3, AV.int IntKind.i64 (IntKind.i64.wrap (i + 1)))])
                              st))
                          (K AX.ret
                            (Env.mk 46
                              [(2,
                                  AV.int IntKind.u64
                                    (bitsI BinOp.or IntKind.u64 u
                                      (IntKind.u64.wrap
                                        (IntKind.u64.wrap (bitsI BinOp.andNot a a_1 128) *
                                          2 ^ min (IntKind.i64.wrap (7 * i)).toNat 64)))),
                                (3, AV.int IntKind.i64 (IntKind.i64.wrap (i + 1)))])
                            st))
                        (loopRun (f33_l0.run F) [4, 12, 13, 14] K n
                          (Env.mk 46
                            [(4,
                                AV.int IntKind.u64
                                  (bitsI BinOp.or IntKind.u64 u
                                    (IntKind.u64.wrap
                                      (IntKind.u64.wrap (bitsI BinOp.andNot a a_1 128) *
                                        2 ^ min (IntKind.i64.wrap (7 * i)).toNat 64)))),
                              (12, AV.sl 1 f l), (13, AV.int IntKind.i64 (↑l.length : Int)),
                              (14, AV.int IntKind.i64 (IntKind.i64.wrap (i + 1)))])
                          st)
                    else none
                else none)
            else none)
      (K (AX.exit 0) (Env.mk 46 []) st) := by kernel_rfl

theorem digits_round (F n : Nat) (K : Cont) (u i c : Int) (f : Bool) (l : List (List AV)) (st : St) (h0 : elemAt l i = some [.int .u8 c]) :
    (loopRun (f33_l0.run F) [4, 12, 13, 14] K n.succ (Env.mk 46 [(4, .int .u64 u), (12, .sl 1 f l), (13, .int .i64 l.length), (14, .int .i64 i)]) st : Ans) =
    branch (AV.bool (decide (i < (↑l.length : Int))))
      (branch (AV.bool (i == 9))
        (branch (AV.bool (decide (IntKind.u64.wrap (bitsI BinOp.andNot IntKind.u8 c 128) > 1)))
          (K AX.ret (Env.mk 46 [(2, AV.int IntKind.u64 0), (3, AV.int IntKind.i64 0)]) st)
          (if 0 ≤ IntKind.i64.wrap (7 * i) then
            branch (AV.bool (decide (c < 128)))
              (branch (AV.bool (IntKind.u64.wrap (bitsI BinOp.andNot IntKind.u8 c 128) == 0))
                (branch (AV.bool (decide (i > 0)))
                  (K AX.ret (Env.mk 46 [(2, AV.int IntKind.u64 0), (3, AV.int IntKind.i64 0)]) st)
                  (K AX.ret
                    (Env.mk 46
                      [(2,
                          AV.int IntKind.u64
                            (bitsI BinOp.or IntKind.u64 u
                              (IntKind.u64.wrap
                                (IntKind.u64.wrap (bitsI BinOp.andNot IntKind.u8 c 128) *
                                  2 ^ min (IntKind.i64.wrap (7 * i)).toNat 64)))),
                        (3, AV.int IntKind.i64 (IntKind.i64.wrap (i + 1)))])
                    st))
                (K AX.ret
                  (Env.mk 46
                    [(2,
                        AV.int IntKind.u64
                          (bitsI BinOp.or IntKind.u64 u
                            (IntKind.u64.wrap
                              (IntKind.u64.wrap (bitsI BinOp.andNot IntKind.u8 c 128) *
                                2 ^ min (IntKind.i64.wrap (7 * i)).toNat 64)))),
                      (3, AV.int IntKind.i64 (IntKind.i64.wrap (i + 1)))])
                  st))
              (loopRun (f33_l0.run F) [4, 12, 13, 14] K n
                (Env.mk 46
                  [(4,
                      AV.int IntKind.u64
                        (bitsI BinOp.or IntKind.u64 u
                          (IntKind.u64.wrap
                            (IntKind.u64.wrap (bitsI BinOp.andNot IntKind.u8 c 128) *
                              2 ^ min (IntKind.i64.wrap (7 * i)).toNat 64)))),
                    (12, AV.sl 1 f l), (13, AV.int IntKind.i64 (↑l.length : Int)),
                    (14, AV.int IntKind.i64 (IntKind.i64.wrap (i + 1)))])
                st)
          else none))
        (if 0 ≤ IntKind.i64.wrap (7 * i) then
          branch (AV.bool (decide (c < 128)))
            (branch (AV.bool (IntKind.u64.wrap (bitsI BinOp.andNot IntKind.u8 c 128) == 0))
              (branch (AV.bool (decide (i > 0)))
                (K AX.ret (Env.mk 46 [(2, AV.int IntKind.u64 0), (3, AV.int IntKind.i64 0)]) st)
                (K AX.ret
                  (Env.mk 46
                    [(2,
                        AV.int IntKind.u64
                          (bitsI BinOp.or IntKind.u64 u
                            (IntKind.u64.wrap
                              (IntKind.u64.wrap (bitsI BinOp.andNot IntKind.u8 c 128) *
                                2 ^ min (IntKind.i64.wrap (7 * i)).toNat 64)))),
                      (3, AV.int IntKind.i64 (IntKind.i64.wrap (i + 1)))])
                  st))
              (K AX.ret
                (Env.mk 46
                  [(2,
                      AV.int IntKind.u64
                        (bitsI BinOp.or IntKind.u64 u
                          (IntKind.u64.wrap
                            (IntKind.u64.wrap (bitsI BinOp.andNot IntKind.u8 c 128) *
                              2 ^ min (IntKind.i64.wrap (7 * i)).toNat 64)))),
                    (3, AV.int IntKind.i64 (IntKind.i64.wrap (i + 1)))])
                st))
            (loopRun (f33_l0.run F) [4, 12, 13, 14] K n
              (Env.mk 46
                [(4,
                    AV.int IntKind.u64
                      (bitsI BinOp.or IntKind.u64 u
                        (IntKind.u64.wrap
                          (IntKind.u64.wrap (bitsI BinOp.andNot IntKind.u8 c 128) *
                            2 ^ min (IntKind.i64.wrap (7 * i)).toNat 64)))),
                  (12, AV.sl 1 f l), (13, AV.int IntKind.i64 (↑l.length : Int)),
                  (14, AV.int IntKind.i64 (IntKind.i64.wrap (i + 1)))])
              st)
        else none))
      (K (AX.exit 0) (Env.mk 46 []) st) := by
  rw [digits_round_raw F n K u i c f l st, h0]
  kernel_rfl

theorem digits_end_raw (F n : Nat) (K : Cont) (u i : Int) (f : Bool) (l : List (List AV)) (st : St) :
    (loopRun (f33_l0.run F) [4, 12, 13, 14] K n.succ (Env.mk 46 [(4, .int .u64 u), (12, .sl 1 f l), (13, .int .i64 l.length), (14, .int .i64 i)]) st : Ans) =
    branch (AV.bool (decide (i < (↑l.length : Int))))
      (onSome (elemAt l i) none fun (o : List AV) =>
        onCons o none fun (x : AV) (l_1 : List AV) =>
          onInt x fun (a : IntKind) (a_1 : Int) =>
            if a = IntKind.u8 then
              branch (AV.bool (i == 9))
                (branch (AV.bool (decide (IntKind.u64.wrap (bitsI BinOp.andNot a a_1 128) > 1)))
                  (K AX.ret (Env.mk 46 [(2, AV.int IntKind.u64 0), (3, AV.int IntKind.i64 0)]) st)
                  (if 0 ≤ IntKind.i64.wrap (7 * i) then
                    onInt x fun (a_2 : IntKind) (a_3 : Int) =>
                      if a_2 = IntKind.u8 then
                        branch (AV.bool (decide (a_3 < 128)))
                          (branch (AV.bool (IntKind.u64.wrap (bitsI BinOp.andNot a a_1 128) == 0))
                            (branch (AV.bool (decide (i > 0)))
                              (K AX.ret (Env.mk 46 [(2, AV.int IntKind.u64 0), (3, AV.int IntKind.i64 0)]) st)
                              (K AX.ret
                                (Env.mk 46
                                  [(2,
                                      AV.int IntKind.u64
                                        (bitsI BinOp.or IntKind.u64 u
                                          (IntKind.u64.wrap
                                            (IntKind.u64.wrap (bitsI BinOp.andNot a a_1 128) *
                                              2 ^ min (IntKind.i64.wrap (7 * i)).toNat 64)))),
                                    (3, AV.int IntKind.i64 (IntKind.i64.wrap (i + 1)))])
                                st))
                            (K AX.ret
                              (Env.mk 46
                                [(2,
                                    AV.int IntKind.u64
                                      (bitsI BinOp.or IntKind.u64 u
                                        (IntKind.u64.wrap
                                          (IntKind.u64.wrap (bitsI BinOp.andNot a a_1 128) *
                                            2 ^ min (IntKind.i64.wrap (7 * i)).toNat 64)))),
                                  (3, AV.int IntKind.i64 (IntKind.i64.wrap (i + 1)))])
                              st))
                          (loopRun (f33_l0.run F) [4, 12, 13, 14] K n
                            (Env.mk 46
                              [(4,
                                  AV.int IntKind.u64
                                    (bitsI BinOp.or IntKind.u64 u
                                      (IntKind.u64.wrap
                                        (IntKind.u64.wrap (bitsI BinOp.andNot a a_1 128) *
                                          2 ^ min (IntKind.i64.wrap (7 * i)).toNat 64)))),
                                (12, AV.sl 1 f l), (13, AV.int IntKind.i64 (↑l.length : Int)),
                                (14, AV.int IntKind.i64 (IntKind.i64.wrap (i + 1)))])
                            st)
                      else none
                  else none))
                (if 0 ≤ IntKind.i64.wrap (7 * i) then
                  onInt x fun (a_2 : IntKind) (a_3 : Int) =>
                    if a_2 = IntKind.u8 then
                      branch (AV.bool (decide (a_3 < 128)))
                        (branch (AV.bool (IntKind.u64.wrap (bitsI BinOp.andNot a a_1 128) == 0))
                          (branch (AV.bool (decide (i > 0)))
                            (K AX.ret (Env.mk 46 [(2, AV.int IntKind.u64 0), (3, AV.int IntKind.i64 0)]) st)
                            (K AX.ret
                              (Env.mk 46
                                [(2,
                                    AV.int IntKind.u64
                                      (bitsI BinOp.or IntKind.u64 u
                                        (IntKind.u64.wrap
                                          (IntKind.u64.wrap (bitsI BinOp.andNot a a_1 128) *
                                            2 ^ min (IntKind.i64.wrap (7 * i)).toNat 64)))),
                                  (3, AV.int IntKind.i64 (IntKind.i64.wrap (i + 1)))])
                              st))
                          (K AX.ret
                            (Env.mk 46
                              [(2,
                                  AV.int IntKind.u64
                                    (bitsI BinOp.or IntKind.u64 u
                                      (IntKind.u64.wrap
                                        (IntKind.u64.wrap (bitsI BinOp.andNot a a_1 128) *
                                          2 ^ min (IntKind.i64.wrap (7 * i)).toNat 64)))),
                                (3, AV.int IntKind.i64 (IntKind.i64.wrap (i + 1)))])
                            st))
                        (loopRun (f33_l0.run F) [4, 12, 13, 14] K n
                          (Env.mk 46
                            [(4,
                                AV.int IntKind.u64
                                  (bitsI BinOp.or IntKind.u64 u
                                    (IntKind.u64.wrap
                                      (IntKind.u64.wrap (bitsI BinOp.andNot a a_1 128) *
                                        2 ^ min (IntKind.i64.wrap (7 * i)).toNat 64)))),
                              (12, AV.sl 1 f l), (13, AV.int IntKind.i64 (↑l.length : Int)),
                              (14, AV.int IntKind.i64 (IntKind.i64.wrap (i + 1)))])
                          st)
                    else none
                else none)
            else none)
      (K (AX.exit 0) (Env.mk 46 []) st) := by kernel_rfl

theorem digits_end (F n : Nat) (K : Cont) (u i : Int) (f : Bool) (l : List (List AV)) (st : St) (h0 : decide (i < (l.length : Int)) = false) :
    (loopRun (f33_l0.run F) [4, 12, 13, 14] K n.succ (Env.mk 46 [(4, .int .u64 u), (12, .sl 1 f l), (13, .int .i64 l.length), (14, .int .i64 i)]) st : Ans) =
    K (AX.exit 0) (Env.mk 46 []) st := by
  rw [digits_end_raw F n K u i f l st, h0]
  kernel_rfl

theorem digits_out (F : Nat) (st : St) :
    ((Cont.block 0 (Cont.then (f33_r0.run F (f33.leaveK Fun.done)) (f33.leaveK Fun.done))) (.exit 0) (Env.mk 46 []) st : Ans) =
    some (Fin.ret (AV.tup [AV.int IntKind.u64 0, AV.int IntKind.i64 0]), st) := by kernel_rfl

theorem digits_ret (F : Nat) (u m : Int) (st : St) :
    ((Cont.block 0 (Cont.then (f33_r0.run F (f33.leaveK Fun.done)) (f33.leaveK Fun.done))) .ret (Env.mk 46 [(2, .int .u64 u), (3, .int .i64 m)]) st : Ans) =
    some (Fin.ret (AV.tup [AV.int IntKind.u64 u, AV.int IntKind.i64 m]), st) := by kernel_rfl

theorem same_run (F : Nat) (f f' : Bool) (l l' : List (List AV)) (st : St) :
    (f14.run F [.sl 1 f l, .sl 1 f' l'] st : Ans) =
    branch (AV.bool ((↑l.length : Int) != (↑l'.length : Int))) (some (Fin.ret (AV.bool false), st))
      (loopRun (f14_l0.run F) [0, 1, 5]
        (Cont.block 0 (Cont.then (f14_r0.run F (f14.leaveK Fun.done)) (f14.leaveK Fun.done))) F
        (Env.mk 26 [(0, AV.sl 1 f l), (1, AV.sl 1 f' l'), (5, AV.int IntKind.i64 0)]) st) := by kernel_rfl

theorem same_round_raw (F n : Nat) (K : Cont) (i a b : Int) (f f' : Bool) (l l' : List (List AV)) (st : St) :
    (loopRun (f14_l0.run F) [0, 1, 5] K n.succ (Env.mk 26 [(0, .sl 1 f l), (1, .sl 1 f' l'), (5, .int .i64 i)]) st : Ans) =
    branch (AV.bool (decide (i < (↑l.length : Int))))
      (onSome (elemAt l i) none fun (o : List AV) =>
        onCons o none fun (x : AV) (l_1 : List AV) =>
          onSome (elemAt l' i) none fun (o : List AV) =>
            onCons o none fun (x_1 : AV) (l_2 : List AV) =>
              onInt x fun (a : IntKind) (a_1 : Int) =>
                onInt x_1 fun (a_2 : IntKind) (a_3 : Int) =>
                  if a = a_2 then
                    branch (AV.bool (a_1 != a_3)) (K AX.ret (Env.mk 26 [(4, AV.bool false)]) st)
                      (loopRun (f14_l0.run F) [0, 1, 5] K n
                        (Env.mk 26
                          [(0, AV.sl 1 f l), (1, AV.sl 1 f' l'), (5, AV.int IntKind.i64 (IntKind.i64.wrap (i + 1)))])
                        st)
                  else none)
      (K (AX.exit 0) (Env.mk 26 []) st) := by kernel_rfl

theorem same_round (F n : Nat) (K : Cont) (i a b : Int) (f f' : Bool) (l l' : List (List AV)) (st : St) (h0 : elemAt l i = some [.int .u8 a]) (h1 : elemAt l' i = some [.int .u8 b]) :
    (loopRun (f14_l0.run F) [0, 1, 5] K n.succ (Env.mk 26 [(0, .sl 1 f l), (1, .sl 1 f' l'), (5, .int .i64 i)]) st : Ans) =
    branch (AV.bool (decide (i < (↑l.length : Int))))
      (branch (AV.bool (a != b)) (K AX.ret (Env.mk 26 [(4, AV.bool false)]) st)
        (loopRun (f14_l0.run F) [0, 1, 5] K n
          (Env.mk 26 [(0, AV.sl 1 f l), (1, AV.sl 1 f' l'), (5, AV.int IntKind.i64 (IntKind.i64.wrap (i + 1)))]) st))
      (K (AX.exit 0) (Env.mk 26 []) st) := by
  rw [same_round_raw F n K i a b f f' l l' st, h0, h1]
  kernel_rfl

theorem copy_run (F : Nat) (f : Bool) (l : List (List AV)) (st : St) :
    (f25.run F [.sl 1 f l] st : Ans) =
    onCons l (some (Fin.ret (AV.sl 1 true []), st)) fun (x : List AV) (l : List (List AV)) =>
      if (0 + (x :: l).length) * 1 ≤ 140737488355328 then
        some (Fin.ret (AV.lg st.tk.length 1 (x :: l)), St.mk st.objs (st.tk ++ [(1, (x :: l).length)]))
      else none := by kernel_rfl

theorem copy_nil (F : Nat) (st : St) :
    (f25.run F [.nilsl] st : Ans) =
    some (Fin.ret (AV.sl 1 true []), st) := by kernel_rfl

theorem clone_run (F : Nat) (f : Bool) (l : List (List AV)) (st : St) :
    (f32.run F [.sl 1 f l] st : Ans) =
    onCons l (some (Fin.ret (AV.sl 1 true []), st)) fun (x : List AV) (l : List (List AV)) =>
      if (0 + (x :: l).length) * 1 ≤ 140737488355328 then
        some (Fin.ret (AV.lg st.tk.length 1 (x :: l)), St.mk st.objs (st.tk ++ [(1, (x :: l).length)]))
      else none := by kernel_rfl

theorem clone_lg (F t : Nat) (l : List (List AV)) (st : St) :
    (f32.run F [.lg t 1 l] st : Ans) =
    onCons l (some (Fin.ret (AV.sl 1 true []), st)) fun (x : List AV) (l : List (List AV)) =>
      if (0 + (x :: l).length) * 1 ≤ 140737488355328 then
        some (Fin.ret (AV.lg st.tk.length 1 (x :: l)), St.mk st.objs (st.tk ++ [(1, (x :: l).length)]))
      else none := by kernel_rfl

theorem clone_nil (F : Nat) (st : St) :
    (f32.run F [.nilsl] st : Ans) =
    some (Fin.ret AV.nilsl, st) := by kernel_rfl

theorem rint_run (F : Nat) (n : Int) (st : St) :
    (f18.run F [.int .i64 n] st : Ans) =
    branch (AV.bool (decide (n < 0)))
      (loopRun (f18_l0.run F) [3, 4] (Cont.block 0 (Cont.then (f18_r0.run F (f18.leaveK Fun.done)) (f18.leaveK Fun.done))) F
        (Env.mk 33
          [(3,
              AV.int IntKind.u64
                (IntKind.u64.wrap
                  (IntKind.u64.wrap (IntKind.u64.wrap (IntKind.i64.wrap (0 - IntKind.i64.wrap (n + 1))) * 2) + 1))),
            (4, AV.sl 1 true [])])
        st)
      (loopRun (f18_l0.run F) [3, 4] (Cont.block 0 (Cont.then (f18_r0.run F (f18.leaveK Fun.done)) (f18.leaveK Fun.done))) F
        (Env.mk 33 [(3, AV.int IntKind.u64 (IntKind.u64.wrap (IntKind.u64.wrap n * 2))), (4, AV.sl 1 true [])]) st) := by kernel_rfl

theorem rint_first (F n : Nat) (K : Cont) (u : Int) (st : St) :
    (loopRun (f18_l0.run F) [3, 4] K n.succ (Env.mk 33 [(3, .int .u64 u), (4, .sl 1 true [])]) st : Ans) =
    branch (AV.bool (decide (u ≥ 128)))
      (loopRun (f18_l0.run F) [3, 4] K n
        (Env.mk 33
          [(3, AV.int IntKind.u64 (IntKind.u64.wrap (u.tdiv 128))),
            (4, AV.lg st.tk.length 1 [[AV.int IntKind.u8 (IntKind.u8.wrap (IntKind.u8.wrap (u.tmod 128) + 128))]])])
        (St.mk st.objs (st.tk ++ [(1, 1)])))
      (K (AX.exit 0) (Env.mk 33 [(3, AV.int IntKind.u64 u), (4, AV.sl 1 true [])]) st) := by kernel_rfl

theorem rint_round (F n t : Nat) (K : Cont) (u : Int) (l : List (List AV)) (st : St) :
    (loopRun (f18_l0.run F) [3, 4] K n.succ (Env.mk 33 [(3, .int .u64 u), (4, .lg t 1 l)]) st : Ans) =
    branch (AV.bool (decide (u ≥ 128)))
      (if st.tk[t]? = some (1, l.length) ∧ (l.length + 1) * 1 ≤ 140737488355328 then
        loopRun (f18_l0.run F) [3, 4] K n
          (Env.mk 33
            [(3, AV.int IntKind.u64 (IntKind.u64.wrap (u.tdiv 128))),
              (4, AV.lg t 1 (l ++ [[AV.int IntKind.u8 (IntKind.u8.wrap (IntKind.u8.wrap (u.tmod 128) + 128))]]))])
          (St.mk st.objs (st.tk.set t (1, l.length + 1)))
      else none)
      (K (AX.exit 0) (Env.mk 33 [(3, AV.int IntKind.u64 u), (4, AV.lg t 1 l)]) st) := by kernel_rfl

theorem rint_out (F t : Nat) (u : Int) (l : List (List AV)) (st : St) :
    ((Cont.block 0 (Cont.then (f18_r0.run F (f18.leaveK Fun.done)) (f18.leaveK Fun.done))) (.exit 0) (Env.mk 33 [(3, .int .u64 u), (4, .lg t 1 l)]) st : Ans) =
    if st.tk[t]? = some (1, l.length) ∧ (l.length + 1) * 1 ≤ 140737488355328 then
      some
        (Fin.ret (AV.lg t 1 (l ++ [[AV.int IntKind.u8 (IntKind.u8.wrap u)]])),
          St.mk st.objs (st.tk.set t (1, l.length + 1)))
    else none := by kernel_rfl

theorem rint_out0 (F : Nat) (u : Int) (st : St) :
    ((Cont.block 0 (Cont.then (f18_r0.run F (f18.leaveK Fun.done)) (f18.leaveK Fun.done))) (.exit 0) (Env.mk 33 [(3, .int .u64 u), (4, .sl 1 true [])]) st : Ans) =
    some (Fin.ret (AV.lg st.tk.length 1 [[AV.int IntKind.u8 (IntKind.u8.wrap u)]]), St.mk st.objs (st.tk ++ [(1, 1)])) := by kernel_rfl

theorem same_end_raw (F n : Nat) (K : Cont) (i : Int) (f f' : Bool) (l l' : List (List AV)) (st : St) :
    (loopRun (f14_l0.run F) [0, 1, 5] K n.succ (Env.mk 26 [(0, .sl 1 f l), (1, .sl 1 f' l'), (5, .int .i64 i)]) st : Ans) =
    branch (AV.bool (decide (i < (↑l.length : Int))))
      (onSome (elemAt l i) none fun (o : List AV) =>
        onCons o none fun (x : AV) (l_1 : List AV) =>
          onSome (elemAt l' i) none fun (o : List AV) =>
            onCons o none fun (x_1 : AV) (l_2 : List AV) =>
              onInt x fun (a : IntKind) (a_1 : Int) =>
                onInt x_1 fun (a_2 : IntKind) (a_3 : Int) =>
                  if a = a_2 then
                    branch (AV.bool (a_1 != a_3)) (K AX.ret (Env.mk 26 [(4, AV.bool false)]) st)
                      (loopRun (f14_l0.run F) [0, 1, 5] K n
                        (Env.mk 26
                          [(0, AV.sl 1 f l), (1, AV.sl 1 f' l'), (5, AV.int IntKind.i64 (IntKind.i64.wrap (i + 1)))])
                        st)
                  else none)
      (K (AX.exit 0) (Env.mk 26 []) st) := by kernel_rfl

theorem same_end (F n : Nat) (K : Cont) (i : Int) (f f' : Bool) (l l' : List (List AV)) (st : St) (h0 : decide (i < (l.length : Int)) = false) :
    (loopRun (f14_l0.run F) [0, 1, 5] K n.succ (Env.mk 26 [(0, .sl 1 f l), (1, .sl 1 f' l'), (5, .int .i64 i)]) st : Ans) =
    K (AX.exit 0) (Env.mk 26 []) st := by
  rw [same_end_raw F n K i f f' l l' st, h0]
  kernel_rfl

theorem same_out (F : Nat) (st : St) :
    ((Cont.block 0 (Cont.then (f14_r0.run F (f14.leaveK Fun.done)) (f14.leaveK Fun.done))) (.exit 0) (Env.mk 26 []) st : Ans) =
    some (Fin.ret (AV.bool true), st) := by kernel_rfl

theorem same_ret (F : Nat) (st : St) :
    ((Cont.block 0 (Cont.then (f14_r0.run F (f14.leaveK Fun.done)) (f14.leaveK Fun.done))) .ret (Env.mk 26 [(4, .bool false)]) st : Ans) =
    some (Fin.ret (AV.bool false), st) := by kernel_rfl

theorem same_nn (F : Nat) (st : St) :
    (f14.run F.succ [.nilsl, .nilsl] st : Ans) =
    some (Fin.ret (AV.bool true), st) := by kernel_rfl

theorem same_ns (F : Nat) (f : Bool) (l : List (List AV)) (st : St) :
    (f14.run F.succ [.nilsl, .sl 1 f l] st : Ans) =
    branch (AV.bool (0 != (↑l.length : Int))) (some (Fin.ret (AV.bool false), st)) (some (Fin.ret (AV.bool true), st)) := by kernel_rfl

theorem same_sn (F : Nat) (f : Bool) (l : List (List AV)) (st : St) :
    (f14.run F.succ [.sl 1 f l, .nilsl] st : Ans) =
    branch (AV.bool ((↑l.length : Int) != 0)) (some (Fin.ret (AV.bool false), st))
      (branch (AV.bool (decide (0 < (↑l.length : Int))))
        (onSome (elemAt l 0) none fun (o : List AV) => onCons o none fun (x : AV) (l : List AV) => none)
        (some (Fin.ret (AV.bool true), st))) := by kernel_rfl

end Go.Proofs.Ytjdpfblmhahfkaa.V
