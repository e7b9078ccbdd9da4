/- What the functions' runs come to; the right sides were printed by a tool, Lean checks them. -/
import Derived.Test.YtjdpfblmhahfkaaBM
set_option linter.unusedVariables false
set_option maxRecDepth 100000
namespace Go.Proofs.Ytjdpfblmhahfkaa.V
open Go Go.V Go.RowKit

theorem rdtext_run0 (f : Bool) (l : List (List AV)) (os : List Ob) (tk : List (Nat × Nat)) :
    (f17.run 0 [.ptr 0 0] ⟨.cells [.sl 1 f l, .bool false] :: os, tk⟩ : Ans) =
    branch (AV.bool (fit (Br.sl f l)))
      (onSome (getN (nR l)) (some (Fin.ret (AV.str (ByteArray.mk #[])), St.mk (Ob.cells [AV.nilsl, AV.bool true] :: os) tk))
        fun (o : Int × Nat) =>
        branch (AV.bool (decide (o.fst < 0)))
          (some (Fin.ret (AV.str (ByteArray.mk #[])), St.mk (Ob.cells [AV.nilsl, AV.bool true] :: os) tk))
          (branch (AV.bool (decide (o.fst > (↑(List.drop o.snd l).length : Int))))
            (some (Fin.ret (AV.str (ByteArray.mk #[])), St.mk (Ob.cells [AV.nilsl, AV.bool true] :: os) tk))
            (if 0 ≤ o.fst ∧ o.fst ≤ (↑(List.drop o.snd l).length : Int) then
              onSome (numsOf (List.drop 0 (List.take o.fst.toNat (List.drop o.snd l)))) none fun (o_1 : List Int) =>
                if 0 ≤ o.fst ∧ o.fst ≤ (↑(List.drop o.snd l).length : Int) then
                  some
                    (Fin.ret (AV.str (textOf o_1)),
                      St.mk
                        (Ob.cells
                            [AV.sl 1 (f && (List.drop o.snd l).length.beq (List.drop o.snd l).length)
                                (List.drop o.fst.toNat (List.take (List.drop o.snd l).length (List.drop o.snd l))),
                              AV.bool false] ::
                          os)
                        tk)
                else none
            else none)))
      none := by kernel_rfl

theorem rdtext_nil0 (b : Bool) (os : List Ob) (tk : List (Nat × Nat)) :
    (f17.run 0 [.ptr 0 0] ⟨.cells [.nilsl, .bool b] :: os, tk⟩ : Ans) =
    some (Fin.ret (AV.str (ByteArray.mk #[])), St.mk (Ob.cells [AV.nilsl, AV.bool true] :: os) tk) := by kernel_rfl

theorem rdtext_run1 (f : Bool) (l : List (List AV)) (o : Ob) (os : List Ob) (tk : List (Nat × Nat)) :
    (f17.run 0 [.ptr 1 0] ⟨o :: .cells [.sl 1 f l, .bool false] :: os, tk⟩ : Ans) =
    branch (AV.bool (fit (Br.sl f l)))
      (onSome (getN (nR l))
        (some (Fin.ret (AV.str (ByteArray.mk #[])), St.mk (o :: Ob.cells [AV.nilsl, AV.bool true] :: os) tk))
        fun (o_1 : Int × Nat) =>
        branch (AV.bool (decide (o_1.fst < 0)))
          (some (Fin.ret (AV.str (ByteArray.mk #[])), St.mk (o :: Ob.cells [AV.nilsl, AV.bool true] :: os) tk))
          (branch (AV.bool (decide (o_1.fst > (↑(List.drop o_1.snd l).length : Int))))
            (some (Fin.ret (AV.str (ByteArray.mk #[])), St.mk (o :: Ob.cells [AV.nilsl, AV.bool true] :: os) tk))
            (if 0 ≤ o_1.fst ∧ o_1.fst ≤ (↑(List.drop o_1.snd l).length : Int) then
              onSome (numsOf (List.drop 0 (List.take o_1.fst.toNat (List.drop o_1.snd l)))) none fun (o_2 : List Int) =>
                if 0 ≤ o_1.fst ∧ o_1.fst ≤ (↑(List.drop o_1.snd l).length : Int) then
                  some
                    (Fin.ret (AV.str (textOf o_2)),
                      St.mk
                        (o ::
                          Ob.cells
                              [AV.sl 1 (f && (List.drop o_1.snd l).length.beq (List.drop o_1.snd l).length)
                                  (List.drop o_1.fst.toNat (List.take (List.drop o_1.snd l).length (List.drop o_1.snd l))),
                                AV.bool false] ::
                            os)
                        tk)
                else none
            else none)))
      none := by kernel_rfl

theorem rdtext_nil1 (b : Bool) (o : Ob) (os : List Ob) (tk : List (Nat × Nat)) :
    (f17.run 0 [.ptr 1 0] ⟨o :: .cells [.nilsl, .bool b] :: os, tk⟩ : Ans) =
    some (Fin.ret (AV.str (ByteArray.mk #[])), St.mk (o :: Ob.cells [AV.nilsl, AV.bool true] :: os) tk) := by kernel_rfl

theorem rdcount_run0 (f : Bool) (n : Int) (l : List (List AV)) (os : List Ob) (tk : List (Nat × Nat)) :
    (f28.run 0 [.ptr 0 0, .int .i64 n] ⟨.cells [.sl 1 f l, .bool false] :: os, tk⟩ : Ans) =
    branch (AV.bool (fit (Br.sl f l)))
      (onSome (getN (nR l))
        (branch (AV.bool (decide (0 > n)))
          (some (Fin.ret (AV.int IntKind.i64 0), St.mk (Ob.cells [AV.nilsl, AV.bool true] :: os) tk))
          (some (Fin.ret (AV.int IntKind.i64 0), St.mk (Ob.cells [AV.nilsl, AV.bool true] :: os) tk)))
        fun (o : Int × Nat) =>
        branch (AV.bool (decide (o.fst < 0)))
          (some (Fin.ret (AV.int IntKind.i64 0), St.mk (Ob.cells [AV.nilsl, AV.bool true] :: os) tk))
          (branch (AV.bool (decide (o.fst > n)))
            (some (Fin.ret (AV.int IntKind.i64 0), St.mk (Ob.cells [AV.nilsl, AV.bool true] :: os) tk))
            (some
              (Fin.ret (AV.int IntKind.i64 o.fst),
                St.mk (Ob.cells [AV.sl 1 f (List.drop o.snd l), AV.bool false] :: os) tk))))
      none := by kernel_rfl

theorem rdcount_nil0 (b : Bool) (n : Int) (os : List Ob) (tk : List (Nat × Nat)) :
    (f28.run 0 [.ptr 0 0, .int .i64 n] ⟨.cells [.nilsl, .bool b] :: os, tk⟩ : Ans) =
    branch (AV.bool (decide (0 > n)))
      (some (Fin.ret (AV.int IntKind.i64 0), St.mk (Ob.cells [AV.nilsl, AV.bool true] :: os) tk))
      (some (Fin.ret (AV.int IntKind.i64 0), St.mk (Ob.cells [AV.nilsl, AV.bool true] :: os) tk)) := by kernel_rfl

end Go.Proofs.Ytjdpfblmhahfkaa.V
