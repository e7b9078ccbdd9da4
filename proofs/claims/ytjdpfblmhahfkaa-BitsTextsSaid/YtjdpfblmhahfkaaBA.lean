/- What the functions' runs come to; the right sides were printed by a tool, Lean checks them. -/
import Derived.Test.YtjdpfblmhahfkaaB9
set_option linter.unusedVariables false
set_option maxRecDepth 100000
namespace Go.Proofs.Ytjdpfblmhahfkaa.V
open Go Go.V Go.RowKit

theorem new_run (f : Bool) (l : List (List AV)) (st : St) :
    (f10.run 0 [.sl 1 f l] st : Ans) =
    branch (AV.bool (fit (Br.sl f l)))
      (some (Fin.ret (AV.ptr st.objs.length 0), St.mk (st.objs ++ [Ob.cells [AV.sl 1 l.isEmpty l, AV.bool false]]) st.tk))
      none := by kernel_rfl

theorem new_nil (st : St) :
    (f10.run 0 [.nilsl] st : Ans) =
    some (Fin.ret (AV.ptr st.objs.length 0), St.mk (st.objs ++ [Ob.cells [AV.nilsl, AV.bool false]]) st.tk) := by kernel_rfl

theorem rdint_run0 (f b : Bool) (l : List (List AV)) (os : List Ob) (tk : List (Nat × Nat)) :
    (f11.run 0 [.ptr 0 0] ⟨.cells [.sl 1 f l, .bool b] :: os, tk⟩ : Ans) =
    branch (AV.bool (fit (Br.sl f l)))
      (branch (AV.bool ((↑(digR l).snd : Int) == 0))
        (some (Fin.ret (AV.int IntKind.i64 0), St.mk (Ob.cells [AV.nilsl, AV.bool true] :: os) tk))
        (if 0 ≤ (↑(digR l).snd : Int) ∧ (↑(digR l).snd : Int) ≤ (↑l.length : Int) then
          branch (AV.bool (cdec (0 ≤ (↑(digR l).fst : Int) ∧ (↑(digR l).fst : Int) < 18446744073709551616)))
            (some
              (Fin.ret (AV.int IntKind.i64 (unfN (↑(digR l).fst : Int).toNat)),
                St.mk
                  (Ob.cells
                      [AV.sl 1 (f && l.length.beq l.length) (List.drop (↑(digR l).snd : Int).toNat (List.take l.length l)),
                        AV.bool b] ::
                    os)
                  tk))
            none
        else none))
      none := by kernel_rfl

theorem rdint_nil0 (b : Bool) (os : List Ob) (tk : List (Nat × Nat)) :
    (f11.run 0 [.ptr 0 0] ⟨.cells [.nilsl, .bool b] :: os, tk⟩ : Ans) =
    some (Fin.ret (AV.int IntKind.i64 0), St.mk (Ob.cells [AV.nilsl, AV.bool true] :: os) tk) := by kernel_rfl

theorem rdint_run1 (f b : Bool) (l : List (List AV)) (o : Ob) (os : List Ob) (tk : List (Nat × Nat)) :
    (f11.run 0 [.ptr 1 0] ⟨o :: .cells [.sl 1 f l, .bool b] :: os, tk⟩ : Ans) =
    branch (AV.bool (fit (Br.sl f l)))
      (branch (AV.bool ((↑(digR l).snd : Int) == 0))
        (some (Fin.ret (AV.int IntKind.i64 0), St.mk (o :: Ob.cells [AV.nilsl, AV.bool true] :: os) tk))
        (if 0 ≤ (↑(digR l).snd : Int) ∧ (↑(digR l).snd : Int) ≤ (↑l.length : Int) then
          branch (AV.bool (cdec (0 ≤ (↑(digR l).fst : Int) ∧ (↑(digR l).fst : Int) < 18446744073709551616)))
            (some
              (Fin.ret (AV.int IntKind.i64 (unfN (↑(digR l).fst : Int).toNat)),
                St.mk
                  (o ::
                    Ob.cells
                        [AV.sl 1 (f && l.length.beq l.length)
                            (List.drop (↑(digR l).snd : Int).toNat (List.take l.length l)),
                          AV.bool b] ::
                      os)
                  tk))
            none
        else none))
      none := by kernel_rfl

theorem rdint_nil1 (b : Bool) (o : Ob) (os : List Ob) (tk : List (Nat × Nat)) :
    (f11.run 0 [.ptr 1 0] ⟨o :: .cells [.nilsl, .bool b] :: os, tk⟩ : Ans) =
    some (Fin.ret (AV.int IntKind.i64 0), St.mk (o :: Ob.cells [AV.nilsl, AV.bool true] :: os) tk) := by kernel_rfl

theorem text_run (s : ByteArray) (st : St) :
    (f16.run 0 [.str s] st : Ans) =
    branch (AV.bool (i64B (↑s.size : Int)))
      (if
          ((fun (n : Int) (st : St) =>
                        (AV.lg st.tk.length 1 (rb (intBytes n)), St.mk st.objs (st.tk ++ [(1, (intBytes n).length)])))
                      (↑s.size : Int) st).snd.tk[st.tk.length]? =
              some (1, (rb (intBytes (↑s.size : Int))).length) ∧
            ((rb (intBytes (↑s.size : Int))).length +
                  (List.map (fun (c : UInt8) => [AV.int IntKind.u8 (↑c.toNat : Int)]) s.data.toList).length) *
                1 ≤
              140737488355328 then
        some
          (Fin.ret
              (AV.lg st.tk.length 1
                (rb (intBytes (↑s.size : Int)) ++
                  List.map (fun (c : UInt8) => [AV.int IntKind.u8 (↑c.toNat : Int)]) s.data.toList)),
            St.mk (St.mk st.objs (st.tk ++ [(1, (intBytes (↑s.size : Int)).length)])).objs
              ((St.mk st.objs (st.tk ++ [(1, (intBytes (↑s.size : Int)).length)])).tk.set st.tk.length
                (1,
                  (rb (intBytes (↑s.size : Int))).length +
                    (List.map (fun (c : UInt8) => [AV.int IntKind.u8 (↑c.toNat : Int)]) s.data.toList).length)))
      else none)
      none := by kernel_rfl

theorem rtext_run (s : ByteArray) (st : St) :
    (f19.run 0 [.str s] st : Ans) =
    branch (AV.bool (i64B (↑s.size : Int)))
      (if
          ((fun (n : Int) (st : St) =>
                        (AV.lg st.tk.length 1 (rb (intBytes n)), St.mk st.objs (st.tk ++ [(1, (intBytes n).length)])))
                      (↑s.size : Int) st).snd.tk[st.tk.length]? =
              some (1, (rb (intBytes (↑s.size : Int))).length) ∧
            ((rb (intBytes (↑s.size : Int))).length + (rowsOfStr s).length) * 1 ≤ 140737488355328 then
        some
          (Fin.ret (AV.lg st.tk.length 1 (rb (intBytes (↑s.size : Int)) ++ rowsOfStr s)),
            St.mk (St.mk st.objs (st.tk ++ [(1, (intBytes (↑s.size : Int)).length)])).objs
              ((St.mk st.objs (st.tk ++ [(1, (intBytes (↑s.size : Int)).length)])).tk.set st.tk.length
                (1, (rb (intBytes (↑s.size : Int))).length + (rowsOfStr s).length)))
      else none)
      none := by kernel_rfl

end Go.Proofs.Ytjdpfblmhahfkaa.V
