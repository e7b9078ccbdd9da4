/- Merged out of 18 texts: what the claim's code comes to, and why. -/
import Derived.Test.YtnmglmkkeghnaaaX2
/- Cond: the place of a column, as a callee. -/
set_option linter.unusedVariables false
namespace Go.Proofs.Ytnmglmkkeghnaaa.V
open Go Go.V Go.RowKit
/-- Where a column stands. -/
def place (cols : List (List AV)) (s : ByteArray) : Option Nat := idxFrom (named s) cols 0
def natI (o : Option Nat) : Int :=
  match o with
  | some j => j
  | none => 0
theorem leastI_idx (o : Option Nat) : leastI true (idxI o) 0 = natI o := by
  cases o with
  | none => rfl
  | some j => show (if (0 : Int) > (j : Int) then (0 : Int) else (j : Int)) = (j : Int); rw [if_neg (by omega)]
theorem idxI_ge (o : Option Nat) : idxI o ≥ 0 ↔ o.isSome = true := by
  cases o with
  | none => simp [idxI]
  | some j => simp [idxI]
def dPl : List AV → Option (Br × ByteArray)
  | [.nilsl, .str s] => some (.nil, s)
  | [.sl 3 f l, .str s] => some (.sl f l, s)
  | _ => none
theorem dPl_enc (l : List AV) (a : Br × ByteArray) (h : dPl l = some a) : l = [Br.av' 3 a.1, .str a.2] := by
  unfold dPl at h; split at h <;> first | (cases h; rfl) | cases h
noncomputable def p13 : POrc Try.prog := f13.pureIf dPl (fun a => [Br.av' 3 a.1, .str a.2]) dPl_enc (fun a => okC a.1) (fun a => .tup [.int .i64 (natI (place a.1.list a.2)), .bool (place a.1.list a.2).isSome]) (fun a _ => ⟨rfl, fun _ _ => ⟨trivial, trivial, trivial⟩⟩) fun a h => ⟨0, fun st => by
  obtain ⟨b, s⟩ := a
  cases b with
  | nil => exact place_nil s st
  | sl f l =>
    show f13.run 0 [.sl 3 f l, .str s] st = _
    rw [place_run, branch_of h]
    simp only [place, Br.list]
    have e2 := Bool.eq_iff_iff.mpr (Iff.trans decide_eq_true_iff (idxI_ge (idxFrom (named s) l 0)))
    rw [leastI_idx]
    exact congrArg (fun b => some (Fin.ret (AV.tup [AV.int IntKind.i64 (natI (idxFrom (named s) l 0)), AV.bool b]), st)) e2⟩
theorem p13_nat : p13.Nat := pureIf_nat
end Go.Proofs.Ytnmglmkkeghnaaa.V

/- The functions' pieces, as told by gen.py. -/
set_option linter.unusedVariables false
set_option maxRecDepth 20000
namespace Go.Proofs.Ytnmglmkkeghnaaa.V
open Go Go.V Go.RowKit

theorem fl25_2 : fieldB Try.prog 25 2 2 3 true = true := by kernel_rfl

/-! ### 9: interlock/cond.Truth (25, 26, 28); results 6; slots: 0 c, 1 cols, 2 r, 3 c, 4 cols, 5 r, 7 k, 8 ok, 9 v, 10 x -/
noncomputable def f9_b : Sim Try.prog :=
  (.seq (.live [1, 2, 3] (.region 0 [
    ⟨(opBoxF (some 3) 25 (.tmp 0) 0 "cond.go:62" #[]).op, none⟩,
    ⟨(opAssign (some 6) (.const (Value.int IntKind.i64 0)) 3 "cond.go:62" #[]).op, none⟩
  ] (by kernel_rfl)))
  (.seq (.live [2, 3, 7, 8] (.region 1 [
    ⟨(opMove (some 12) (.tmp 1) 26 "cond.go:63" #[]).op, none⟩,
    ⟨(opFieldAddr (some 13) 25 (.tmp 3) 0 0 1 false fl25_0 (by decide) 0 "cond.go:63" #[]).op, none⟩,
    ⟨(opLoadT (.one .str) (some 14) 9 (.tmp 13) .string Try.underlying9 1 sz9 (by kernel_rfl) 9 "cond.go:63" #[{ on := 1, ground := Ground.data }]).op, none⟩,
    ⟨(opCallP p13 (some 15) [(.tmp 12), (.tmp 14)] #[26, 9] 36 "cond.go:63" #[{ on := 0, ground := Ground.data }, { on := 2, ground := Ground.data }]).op, none⟩,
    ⟨(opMove (some 11) (.tmp 15) 36 "cond.go:63" #[{ on := 3, ground := Ground.data }]).op, none⟩,
    ⟨(opExtract (some 16) (.tmp 11) 0 3 "cond.go:63" #[{ on := 4, ground := Ground.data }]).op, none⟩,
    ⟨(opExtract (some 17) (.tmp 11) 1 4 "cond.go:63" #[{ on := 4, ground := Ground.data }, { on := 7, ground := (Ground.gcOnly Departure.lateStores) }]).op, none⟩,
    ⟨(opAssign (some 7) (.tmp 16) 3 "cond.go:63" #[{ on := 5, ground := Ground.data }, { on := 3, ground := Ground.chain }, { on := 0, ground := Ground.phase }, { on := 1, ground := Ground.phase }, { on := 2, ground := Ground.phase }, { on := 3, ground := Ground.phase }, { on := 4, ground := Ground.phase }, { on := 5, ground := Ground.phase }, { on := 6, ground := (Ground.textOnly Departure.lateStores) }]).op, none⟩,
    ⟨(opAssign (some 8) (.tmp 17) 4 "cond.go:63" #[{ on := 6, ground := Ground.data }, { on := 7, ground := Ground.chain }, { on := 0, ground := Ground.phase }, { on := 1, ground := Ground.phase }, { on := 2, ground := Ground.phase }, { on := 3, ground := Ground.phase }, { on := 4, ground := Ground.phase }, { on := 5, ground := Ground.phase }, { on := 6, ground := Ground.phase }, { on := 7, ground := Ground.phase }]).op, none⟩
  ] (by kernel_rfl)))
  (.seq (.seq (.live [2, 3, 7, 25] (.region 2 [
    ⟨(opMove (some 18) (.tmp 8) 4 "cond.go:64" #[]).op, none⟩,
    ⟨(opNot (some 19) 4 (.tmp 18) 4 "cond.go:64" #[{ on := 0, ground := Ground.data }]).op, none⟩,
    ⟨(opMove (some 20) (.tmp 19) 4 "cond.go:64" #[{ on := 1, ground := Ground.data }]).op, none⟩,
    ⟨(opMove (some 21) (.tmp 7) 3 "cond.go:64" #[{ on := 2, ground := Ground.guard }]).op, (some (2, 20, false))⟩,
    ⟨(opMove (some 22) (.tmp 2) 28 "cond.go:64" #[{ on := 2, ground := Ground.guard }]).op, (some (2, 20, false))⟩,
    ⟨(opLen (some 23) (.tmp 22) 28 (.slice 23) Try.underlying28 3 "cond.go:64" #[{ on := 4, ground := Ground.data }, { on := 2, ground := Ground.guard }]).op, (some (2, 20, false))⟩,
    ⟨(opBin (some 24) .geq 3 (.tmp 21) (.tmp 23) 3 4 "cond.go:64" #[{ on := 3, ground := Ground.data }, { on := 5, ground := Ground.data }, { on := 2, ground := Ground.guard }]).op, (some (2, 20, false))⟩,
    ⟨(opPick (some 25) (.tmp 20) (.const (Value.bool true)) (.tmp 24) 4 "cond.go:64" #[{ on := 2, ground := Ground.data }, { on := 6, ground := Ground.data }]).op, none⟩
  ] (by kernel_rfl)))
  (.cond (.tmp 25)
    (.seq (.live [6] (.region 3 [
      ⟨(opAssign (some 6) (.const (Value.int IntKind.i64 (-1))) 3 "cond.go:65" #[]).op, none⟩
    ] (by kernel_rfl)))
    (.live [6] .ret))
    .skip))
  (.seq (.live [3, 9] (.region 4 [
    ⟨(opMove (some 26) (.tmp 2) 28 "cond.go:67" #[]).op, none⟩,
    ⟨(opMove (some 27) (.tmp 7) 3 "cond.go:67" #[]).op, none⟩,
    ⟨(opIndexAddrT (some 28) 28 (.tmp 26) (.tmp 27) 23 3 Try.underlying28 sz23 0 "cond.go:67" #[{ on := 0, ground := Ground.data }, { on := 1, ground := Ground.data }]).op, none⟩,
    ⟨(opLoadT (.agg [(.int .i64), (.int .i64), .str]) (some 29) 23 (.tmp 28) d23 ud23 3 sz23 (by kernel_rfl) 23 "cond.go:67" #[{ on := 2, ground := Ground.data }]).op, none⟩,
    ⟨(opAlloc (some 9) 23 (.agg #[(.int .i64 0), (.int .i64 0), (.string ⟨#[]⟩)]) ze23 0 "cond.go:67" #[]).op, none⟩,
    ⟨(opStore none 23 (.tmp 9) (.tmp 29) 3 sz23 0 "cond.go:67" #[{ on := 4, ground := Ground.data }, { on := 3, ground := Ground.data }, { on := 0, ground := Ground.phase }, { on := 1, ground := Ground.phase }, { on := 2, ground := Ground.phase }, { on := 3, ground := Ground.phase }, { on := 4, ground := Ground.phase }]).op, none⟩
  ] (by kernel_rfl)))
  (.seq (.seq (.live [3, 9, 31] (.region 5 [
    ⟨(opFieldAddr (some 30) 25 (.tmp 3) 1 1 1 false fl25_1 (by decide) 0 "cond.go:68" #[]).op, none⟩,
    ⟨(opLoadT (.one (.int .i64)) (some 31) 3 (.tmp 30) (.int .i64) Try.underlying3 1 sz3 (by kernel_rfl) 3 "cond.go:68" #[{ on := 0, ground := Ground.data }]).op, none⟩
  ] (by kernel_rfl)))
  (.block 0 (.seq (.live [3, 9, 31, 32] (.region 6 [
      ⟨(opBin (some 33) .eql 3 (.tmp 31) (.const (Value.int IntKind.i64 5)) 3 4 "cond.go:69" #[]).op, none⟩,
      ⟨(opAssign (some 32) (.tmp 33) 4 "cond.go:69" #[{ on := 0, ground := Ground.data }]).op, none⟩
    ] (by kernel_rfl)))
    (.cond (.tmp 32)
      (.seq (.live [6] (.region 7 [
        ⟨(opFieldAddr (some 34) 23 (.tmp 9) 0 0 1 false fl23_0 (by decide) 0 "cond.go:70" #[]).op, none⟩,
        ⟨(opLoadT (.one (.int .i64)) (some 35) 3 (.tmp 34) (.int .i64) Try.underlying3 1 sz3 (by kernel_rfl) 3 "cond.go:70" #[{ on := 0, ground := Ground.data }]).op, none⟩,
        ⟨(opBin (some 36) .eql 3 (.tmp 35) (.const (Value.int IntKind.i64 0)) 3 4 "cond.go:70" #[{ on := 1, ground := Ground.data }]).op, none⟩,
        ⟨opCall (f16.orc 0) (some 37) [(.tmp 36)] #[4] 3 "cond.go:70" #[{ on := 2, ground := Ground.data }], none⟩,
        ⟨(opAssign (some 6) (.tmp 37) 3 "cond.go:70" #[{ on := 3, ground := Ground.data }, { on := 3, ground := Ground.chain }, { on := 0, ground := Ground.phase }, { on := 1, ground := Ground.phase }, { on := 2, ground := Ground.phase }, { on := 3, ground := Ground.phase }]).op, none⟩
      ] (by kernel_rfl)))
      (.live [6] .ret))
      (.seq (.live [3, 9, 38] (.region 8 [
        ⟨(opBin (some 39) .eql 3 (.tmp 31) (.const (Value.int IntKind.i64 6)) 3 4 "cond.go:71" #[]).op, none⟩,
        ⟨(opAssign (some 38) (.tmp 39) 4 "cond.go:71" #[{ on := 0, ground := Ground.data }]).op, none⟩
      ] (by kernel_rfl)))
      (.cond (.tmp 38)
        (.seq (.live [6] (.region 9 [
          ⟨(opFieldAddr (some 40) 23 (.tmp 9) 0 0 1 false fl23_0 (by decide) 0 "cond.go:72" #[]).op, none⟩,
          ⟨(opLoadT (.one (.int .i64)) (some 41) 3 (.tmp 40) (.int .i64) Try.underlying3 1 sz3 (by kernel_rfl) 3 "cond.go:72" #[{ on := 0, ground := Ground.data }]).op, none⟩,
          ⟨(opBin (some 42) .neq 3 (.tmp 41) (.const (Value.int IntKind.i64 0)) 3 4 "cond.go:72" #[{ on := 1, ground := Ground.data }]).op, none⟩,
          ⟨opCall (f16.orc 0) (some 43) [(.tmp 42)] #[4] 3 "cond.go:72" #[{ on := 2, ground := Ground.data }], none⟩,
          ⟨(opAssign (some 6) (.tmp 43) 3 "cond.go:72" #[{ on := 3, ground := Ground.data }, { on := 3, ground := Ground.chain }, { on := 0, ground := Ground.phase }, { on := 1, ground := Ground.phase }, { on := 2, ground := Ground.phase }, { on := 3, ground := Ground.phase }]).op, none⟩
        ] (by kernel_rfl)))
        (.live [6] .ret))
        .skip))))))
  (.seq (.live [3, 8, 10] (.region 10 [
    ⟨(opLoadT (.agg [(.int .i64), (.int .i64), .str]) (some 45) 23 (.tmp 9) d23 ud23 3 sz23 (by kernel_rfl) 23 "cond.go:74" #[]).op, none⟩,
    ⟨(opFieldAddr (some 46) 25 (.tmp 3) 2 2 3 true fl25_2 (by decide) 0 "cond.go:74" #[]).op, none⟩,
    ⟨(opLoadT (.agg [(.int .i64), (.int .i64), .str]) (some 47) 23 (.tmp 46) d23 ud23 3 sz23 (by kernel_rfl) 23 "cond.go:74" #[{ on := 1, ground := Ground.data }]).op, none⟩,
    ⟨(opCallP p17 (some 48) [(.tmp 45), (.tmp 47)] #[23, 23] 36 "cond.go:74" #[{ on := 0, ground := Ground.data }, { on := 2, ground := Ground.data }]).op, none⟩,
    ⟨(opMove (some 44) (.tmp 48) 36 "cond.go:74" #[{ on := 3, ground := Ground.data }]).op, none⟩,
    ⟨(opExtract (some 49) (.tmp 44) 0 3 "cond.go:74" #[{ on := 4, ground := Ground.data }]).op, none⟩,
    ⟨(opExtract (some 50) (.tmp 44) 1 4 "cond.go:74" #[{ on := 4, ground := Ground.data }, { on := 7, ground := (Ground.gcOnly Departure.lateStores) }]).op, none⟩,
    ⟨(opAssign (some 10) (.tmp 49) 3 "cond.go:74" #[{ on := 5, ground := Ground.data }, { on := 3, ground := Ground.chain }, { on := 0, ground := Ground.phase }, { on := 1, ground := Ground.phase }, { on := 2, ground := Ground.phase }, { on := 3, ground := Ground.phase }, { on := 4, ground := Ground.phase }, { on := 5, ground := Ground.phase }, { on := 6, ground := (Ground.textOnly Departure.lateStores) }]).op, none⟩,
    ⟨(opAssign (some 8) (.tmp 50) 4 "cond.go:74" #[{ on := 6, ground := Ground.data }, { on := 7, ground := Ground.chain }, { on := 0, ground := Ground.phase }, { on := 1, ground := Ground.phase }, { on := 2, ground := Ground.phase }, { on := 3, ground := Ground.phase }, { on := 4, ground := Ground.phase }, { on := 5, ground := Ground.phase }, { on := 6, ground := Ground.phase }, { on := 7, ground := Ground.phase }]).op, none⟩
  ] (by kernel_rfl)))
  (.seq (.seq (.live [3, 10, 52] (.region 11 [
    ⟨(opMove (some 51) (.tmp 8) 4 "cond.go:75" #[]).op, none⟩,
    ⟨(opNot (some 52) 4 (.tmp 51) 4 "cond.go:75" #[{ on := 0, ground := Ground.data }]).op, none⟩
  ] (by kernel_rfl)))
  (.cond (.tmp 52)
    (.seq (.live [6] (.region 12 [
      ⟨(opAssign (some 6) (.const (Value.int IntKind.i64 (-1))) 3 "cond.go:76" #[]).op, none⟩
    ] (by kernel_rfl)))
    (.live [6] .ret))
    .skip))
  (.seq (.seq (.live [10, 54] (.region 13 [
    ⟨(opFieldAddr (some 53) 25 (.tmp 3) 1 1 1 false fl25_1 (by decide) 0 "cond.go:78" #[]).op, none⟩,
    ⟨(opLoadT (.one (.int .i64)) (some 54) 3 (.tmp 53) (.int .i64) Try.underlying3 1 sz3 (by kernel_rfl) 3 "cond.go:78" #[{ on := 0, ground := Ground.data }]).op, none⟩
  ] (by kernel_rfl)))
  (.block 1 (.seq (.live [10, 54, 55] (.region 14 [
      ⟨(opBin (some 56) .eql 3 (.tmp 54) (.const (Value.int IntKind.i64 1)) 3 4 "cond.go:79" #[]).op, none⟩,
      ⟨(opAssign (some 55) (.tmp 56) 4 "cond.go:79" #[{ on := 0, ground := Ground.data }]).op, none⟩
    ] (by kernel_rfl)))
    (.cond (.tmp 55)
      (.seq (.live [6] (.region 15 [
        ⟨(opMove (some 57) (.tmp 10) 3 "cond.go:80" #[]).op, none⟩,
        ⟨(opBin (some 58) .eql 3 (.tmp 57) (.const (Value.int IntKind.i64 0)) 3 4 "cond.go:80" #[{ on := 0, ground := Ground.data }]).op, none⟩,
        ⟨opCall (f16.orc 0) (some 59) [(.tmp 58)] #[4] 3 "cond.go:80" #[{ on := 1, ground := Ground.data }], none⟩,
        ⟨(opAssign (some 6) (.tmp 59) 3 "cond.go:80" #[{ on := 2, ground := Ground.data }, { on := 2, ground := Ground.chain }, { on := 0, ground := Ground.phase }, { on := 1, ground := Ground.phase }, { on := 2, ground := Ground.phase }]).op, none⟩
      ] (by kernel_rfl)))
      (.live [6] .ret))
      (.seq (.live [10, 54, 60] (.region 16 [
        ⟨(opBin (some 61) .eql 3 (.tmp 54) (.const (Value.int IntKind.i64 2)) 3 4 "cond.go:81" #[]).op, none⟩,
        ⟨(opAssign (some 60) (.tmp 61) 4 "cond.go:81" #[{ on := 0, ground := Ground.data }]).op, none⟩
      ] (by kernel_rfl)))
      (.cond (.tmp 60)
        (.seq (.live [6] (.region 17 [
          ⟨(opMove (some 62) (.tmp 10) 3 "cond.go:82" #[]).op, none⟩,
          ⟨(opBin (some 63) .neq 3 (.tmp 62) (.const (Value.int IntKind.i64 0)) 3 4 "cond.go:82" #[{ on := 0, ground := Ground.data }]).op, none⟩,
          ⟨opCall (f16.orc 0) (some 64) [(.tmp 63)] #[4] 3 "cond.go:82" #[{ on := 1, ground := Ground.data }], none⟩,
          ⟨(opAssign (some 6) (.tmp 64) 3 "cond.go:82" #[{ on := 2, ground := Ground.data }, { on := 2, ground := Ground.chain }, { on := 0, ground := Ground.phase }, { on := 1, ground := Ground.phase }, { on := 2, ground := Ground.phase }]).op, none⟩
        ] (by kernel_rfl)))
        (.live [6] .ret))
        (.seq (.live [10, 54, 65] (.region 18 [
          ⟨(opBin (some 66) .eql 3 (.tmp 54) (.const (Value.int IntKind.i64 3)) 3 4 "cond.go:83" #[]).op, none⟩,
          ⟨(opAssign (some 65) (.tmp 66) 4 "cond.go:83" #[{ on := 0, ground := Ground.data }]).op, none⟩
        ] (by kernel_rfl)))
        (.cond (.tmp 65)
          (.seq (.live [6] (.region 19 [
            ⟨(opMove (some 67) (.tmp 10) 3 "cond.go:84" #[]).op, none⟩,
            ⟨(opBin (some 68) .lss 3 (.tmp 67) (.const (Value.int IntKind.i64 0)) 3 4 "cond.go:84" #[{ on := 0, ground := Ground.data }]).op, none⟩,
            ⟨opCall (f16.orc 0) (some 69) [(.tmp 68)] #[4] 3 "cond.go:84" #[{ on := 1, ground := Ground.data }], none⟩,
            ⟨(opAssign (some 6) (.tmp 69) 3 "cond.go:84" #[{ on := 2, ground := Ground.data }, { on := 2, ground := Ground.chain }, { on := 0, ground := Ground.phase }, { on := 1, ground := Ground.phase }, { on := 2, ground := Ground.phase }]).op, none⟩
          ] (by kernel_rfl)))
          (.live [6] .ret))
          (.seq (.live [10, 70] (.region 20 [
            ⟨(opBin (some 71) .eql 3 (.tmp 54) (.const (Value.int IntKind.i64 4)) 3 4 "cond.go:85" #[]).op, none⟩,
            ⟨(opAssign (some 70) (.tmp 71) 4 "cond.go:85" #[{ on := 0, ground := Ground.data }]).op, none⟩
          ] (by kernel_rfl)))
          (.cond (.tmp 70)
            (.seq (.live [6] (.region 21 [
              ⟨(opMove (some 72) (.tmp 10) 3 "cond.go:86" #[]).op, none⟩,
              ⟨(opBin (some 73) .gtr 3 (.tmp 72) (.const (Value.int IntKind.i64 0)) 3 4 "cond.go:86" #[{ on := 0, ground := Ground.data }]).op, none⟩,
              ⟨opCall (f16.orc 0) (some 74) [(.tmp 73)] #[4] 3 "cond.go:86" #[{ on := 1, ground := Ground.data }], none⟩,
              ⟨(opAssign (some 6) (.tmp 74) 3 "cond.go:86" #[{ on := 2, ground := Ground.data }, { on := 2, ground := Ground.chain }, { on := 0, ground := Ground.phase }, { on := 1, ground := Ground.phase }, { on := 2, ground := Ground.phase }]).op, none⟩
            ] (by kernel_rfl)))
            (.live [6] .ret))
            .skip))))))))))
  (.seq (.live [6] (.region 22 [
    ⟨(opAssign (some 6) (.const (Value.int IntKind.i64 (-1))) 3 "cond.go:88" #[]).op, none⟩
  ] (by kernel_rfl)))
  (.live [6] .ret))))))))))

noncomputable def f9 : Fun Try.prog where
  id := 9
  fn := Try.f9
  hf := Try.func9
  hname := by kernel_rfl
  body := f9_b
  hbody := by kernel_rfl
  res := [rTmp 6]
  hres := by kernel_rfl
  n := 75
  hn := by kernel_rfl

end Go.Proofs.Ytnmglmkkeghnaaa.V

/- What the functions' runs come to; the right sides were printed by a tool, Lean checks them. -/
set_option linter.unusedVariables false
set_option maxRecDepth 100000
namespace Go.Proofs.Ytnmglmkkeghnaaa.V
open Go Go.V Go.RowKit

theorem truth_ss (f g : Bool) (l r : List (List AV)) (c s : ByteArray) (o k n : Int) :
    (f9.run 0 [.agg [.str c, .int .i64 o, .int .i64 k, .int .i64 n, .str s], .sl 3 f l, .sl 3 g r] ⟨[], []⟩ : Ans) =
    branch (AV.bool (okC (Br.sl f l)))
      (branch (AV.bool !(place l c).isSome) (some (Fin.ret (AV.int IntKind.i64 (-1)), St.mk [] []))
        (branch (AV.bool (decide (natI (place l c) ≥ (↑r.length : Int))))
          (some (Fin.ret (AV.int IntKind.i64 (-1)), St.mk [] []))
          (branch (AV.bool (inR r (natI (place l c))))
            (branch (AV.bool ((LD.agg [LT.int IntKind.i64, LT.int IntKind.i64, LT.str]).is (V.rowAt r (natI (place l c)))))
              (branch (AV.bool (o == 5))
                (branch (AV.bool (hdI (V.rowAt r (natI (place l c))) == 0))
                  (some
                    (Fin.ret (AV.int IntKind.i64 1),
                      St.mk
                        [Ob.cells
                            [AV.int IntKind.i64 (hdI (V.rowAt r (natI (place l c)))),
                              AV.int IntKind.i64 (hdI (V.rowAt r (natI (place l c))).tail),
                              AV.str (hdS (V.rowAt r (natI (place l c))).tail.tail)]]
                        []))
                  (some
                    (Fin.ret (AV.int IntKind.i64 0),
                      St.mk
                        [Ob.cells
                            [AV.int IntKind.i64 (hdI (V.rowAt r (natI (place l c)))),
                              AV.int IntKind.i64 (hdI (V.rowAt r (natI (place l c))).tail),
                              AV.str (hdS (V.rowAt r (natI (place l c))).tail.tail)]]
                        [])))
                (branch (AV.bool (o == 6))
                  (branch (AV.bool (hdI (V.rowAt r (natI (place l c))) != 0))
                    (some
                      (Fin.ret (AV.int IntKind.i64 1),
                        St.mk
                          [Ob.cells
                              [AV.int IntKind.i64 (hdI (V.rowAt r (natI (place l c)))),
                                AV.int IntKind.i64 (hdI (V.rowAt r (natI (place l c))).tail),
                                AV.str (hdS (V.rowAt r (natI (place l c))).tail.tail)]]
                          []))
                    (some
                      (Fin.ret (AV.int IntKind.i64 0),
                        St.mk
                          [Ob.cells
                              [AV.int IntKind.i64 (hdI (V.rowAt r (natI (place l c)))),
                                AV.int IntKind.i64 (hdI (V.rowAt r (natI (place l c))).tail),
                                AV.str (hdS (V.rowAt r (natI (place l c))).tail.tail)]]
                          [])))
                  (branch
                    (AV.bool
                      !canV
                          (hdI (V.rowAt r (natI (place l c))), hdI (V.rowAt r (natI (place l c))).tail,
                            hdS (V.rowAt r (natI (place l c))).tail.tail)
                          (k, n, s))
                    (some
                      (Fin.ret (AV.int IntKind.i64 (-1)),
                        St.mk
                          [Ob.cells
                              [AV.int IntKind.i64 (hdI (V.rowAt r (natI (place l c)))),
                                AV.int IntKind.i64 (hdI (V.rowAt r (natI (place l c))).tail),
                                AV.str (hdS (V.rowAt r (natI (place l c))).tail.tail)]]
                          []))
                    (branch (AV.bool (o == 1))
                      (branch
                        (AV.bool
                          ((bif
                                canV
                                  (hdI (V.rowAt r (natI (place l c))), hdI (V.rowAt r (natI (place l c))).tail,
                                    hdS (V.rowAt r (natI (place l c))).tail.tail)
                                  (k, n, s) then
                              ordV
                                (hdI (V.rowAt r (natI (place l c))), hdI (V.rowAt r (natI (place l c))).tail,
                                  hdS (V.rowAt r (natI (place l c))).tail.tail)
                                (k, n, s)
                            else 0) ==
                            0))
                        (some
                          (Fin.ret (AV.int IntKind.i64 1),
                            St.mk
                              [Ob.cells
                                  [AV.int IntKind.i64 (hdI (V.rowAt r (natI (place l c)))),
                                    AV.int IntKind.i64 (hdI (V.rowAt r (natI (place l c))).tail),
                                    AV.str (hdS (V.rowAt r (natI (place l c))).tail.tail)]]
                              []))
                        (some
                          (Fin.ret (AV.int IntKind.i64 0),
                            St.mk
                              [Ob.cells
                                  [AV.int IntKind.i64 (hdI (V.rowAt r (natI (place l c)))),
                                    AV.int IntKind.i64 (hdI (V.rowAt r (natI (place l c))).tail),
                                    AV.str (hdS (V.rowAt r (natI (place l c))).tail.tail)]]
                              [])))
                      (branch (AV.bool (o == 2))
                        (branch
                          (AV.bool
                            ((bif
                                  canV
                                    (hdI (V.rowAt r (natI (place l c))), hdI (V.rowAt r (natI (place l c))).tail,
                                      hdS (V.rowAt r (natI (place l c))).tail.tail)
                                    (k, n, s) then
                                ordV
                                  (hdI (V.rowAt r (natI (place l c))), hdI (V.rowAt r (natI (place l c))).tail,
                                    hdS (V.rowAt r (natI (place l c))).tail.tail)
                                  (k, n, s)
                              else 0) !=
                              0))
                          (some
                            (Fin.ret (AV.int IntKind.i64 1),
                              St.mk
                                [Ob.cells
                                    [AV.int IntKind.i64 (hdI (V.rowAt r (natI (place l c)))),
                                      AV.int IntKind.i64 (hdI (V.rowAt r (natI (place l c))).tail),
                                      AV.str (hdS (V.rowAt r (natI (place l c))).tail.tail)]]
                                []))
                          (some
                            (Fin.ret (AV.int IntKind.i64 0),
                              St.mk
                                [Ob.cells
                                    [AV.int IntKind.i64 (hdI (V.rowAt r (natI (place l c)))),
                                      AV.int IntKind.i64 (hdI (V.rowAt r (natI (place l c))).tail),
                                      AV.str (hdS (V.rowAt r (natI (place l c))).tail.tail)]]
                                [])))
                        (branch (AV.bool (o == 3))
                          (branch
                            (AV.bool
                              (decide
                                ((bif
                                      canV
                                        (hdI (V.rowAt r (natI (place l c))), hdI (V.rowAt r (natI (place l c))).tail,
                                          hdS (V.rowAt r (natI (place l c))).tail.tail)
                                        (k, n, s) then
                                    ordV
                                      (hdI (V.rowAt r (natI (place l c))), hdI (V.rowAt r (natI (place l c))).tail,
                                        hdS (V.rowAt r (natI (place l c))).tail.tail)
                                      (k, n, s)
                                  else 0) <
                                  0)))
                            (some
                              (Fin.ret (AV.int IntKind.i64 1),
                                St.mk
                                  [Ob.cells
                                      [AV.int IntKind.i64 (hdI (V.rowAt r (natI (place l c)))),
                                        AV.int IntKind.i64 (hdI (V.rowAt r (natI (place l c))).tail),
                                        AV.str (hdS (V.rowAt r (natI (place l c))).tail.tail)]]
                                  []))
                            (some
                              (Fin.ret (AV.int IntKind.i64 0),
                                St.mk
                                  [Ob.cells
                                      [AV.int IntKind.i64 (hdI (V.rowAt r (natI (place l c)))),
                                        AV.int IntKind.i64 (hdI (V.rowAt r (natI (place l c))).tail),
                                        AV.str (hdS (V.rowAt r (natI (place l c))).tail.tail)]]
                                  [])))
                          (branch (AV.bool (o == 4))
                            (branch
                              (AV.bool
                                (decide
                                  ((bif
                                        canV
                                          (hdI (V.rowAt r (natI (place l c))), hdI (V.rowAt r (natI (place l c))).tail,
                                            hdS (V.rowAt r (natI (place l c))).tail.tail)
                                          (k, n, s) then
                                      ordV
                                        (hdI (V.rowAt r (natI (place l c))), hdI (V.rowAt r (natI (place l c))).tail,
                                          hdS (V.rowAt r (natI (place l c))).tail.tail)
                                        (k, n, s)
                                    else 0) >
                                    0)))
                              (some
                                (Fin.ret (AV.int IntKind.i64 1),
                                  St.mk
                                    [Ob.cells
                                        [AV.int IntKind.i64 (hdI (V.rowAt r (natI (place l c)))),
                                          AV.int IntKind.i64 (hdI (V.rowAt r (natI (place l c))).tail),
                                          AV.str (hdS (V.rowAt r (natI (place l c))).tail.tail)]]
                                    []))
                              (some
                                (Fin.ret (AV.int IntKind.i64 0),
                                  St.mk
                                    [Ob.cells
                                        [AV.int IntKind.i64 (hdI (V.rowAt r (natI (place l c)))),
                                          AV.int IntKind.i64 (hdI (V.rowAt r (natI (place l c))).tail),
                                          AV.str (hdS (V.rowAt r (natI (place l c))).tail.tail)]]
                                    [])))
                            (some
                              (Fin.ret (AV.int IntKind.i64 (-1)),
                                St.mk
                                  [Ob.cells
                                      [AV.int IntKind.i64 (hdI (V.rowAt r (natI (place l c)))),
                                        AV.int IntKind.i64 (hdI (V.rowAt r (natI (place l c))).tail),
                                        AV.str (hdS (V.rowAt r (natI (place l c))).tail.tail)]]
                                  [])))))))))
              none)
            none)))
      none := by kernel_rfl

theorem truth_ns (g : Bool) (r : List (List AV)) (c s : ByteArray) (o k n : Int) :
    (f9.run 0 [.agg [.str c, .int .i64 o, .int .i64 k, .int .i64 n, .str s], .nilsl, .sl 3 g r] ⟨[], []⟩ : Ans) =
    some (Fin.ret (AV.int IntKind.i64 (-1)), St.mk [] []) := by kernel_rfl

theorem truth_sn (f : Bool) (l : List (List AV)) (c s : ByteArray) (o k n : Int) :
    (f9.run 0 [.agg [.str c, .int .i64 o, .int .i64 k, .int .i64 n, .str s], .sl 3 f l, .nilsl] ⟨[], []⟩ : Ans) =
    branch (AV.bool (okC (Br.sl f l)))
      (branch (AV.bool !(place l c).isSome) (some (Fin.ret (AV.int IntKind.i64 (-1)), St.mk [] []))
        (branch (AV.bool (decide (natI (place l c) ≥ 0))) (some (Fin.ret (AV.int IntKind.i64 (-1)), St.mk [] [])) none))
      none := by kernel_rfl

theorem truth_nn (c s : ByteArray) (o k n : Int) :
    (f9.run 0 [.agg [.str c, .int .i64 o, .int .i64 k, .int .i64 n, .str s], .nilsl, .nilsl] ⟨[], []⟩ : Ans) =
    some (Fin.ret (AV.int IntKind.i64 (-1)), St.mk [] []) := by kernel_rfl

end Go.Proofs.Ytnmglmkkeghnaaa.V

/- Cond: the truth of a condition, as a callee. -/
set_option linter.unusedVariables false
namespace Go.Proofs.Ytnmglmkkeghnaaa.V
open Go Go.V Go.RowKit

def tVa : List LT := [LT.int .i64, LT.int .i64, LT.str]
/-- Rows that are values. -/
def okV (b : Br) : Bool := b.list.all (isRow tVa) && decide (b.list.length ≤ 1000000)
theorem okV_spec {b : Br} (h : okV b = true) : (∀ r ∈ b.list, isRow tVa r = true) ∧ b.list.length ≤ 1000000 := by
  unfold okV at h
  simp only [Bool.and_eq_true, decide_eq_true_eq] at h
  exact ⟨List.all_eq_true.mp h.1, h.2⟩
theorem isVa_is {r : List AV} (h : isRow tVa r = true) : (LD.agg [LT.int .i64, LT.int .i64, LT.str]).is r = true := by
  simp only [isRow, Bool.and_eq_true] at h
  exact h.1
/-- A row's value at a place. -/
def vaAt (r : List (List AV)) (j : Int) : Va := (hdI (V.rowAt r j), hdI (V.rowAt r j).tail, hdS (V.rowAt r j).tail.tail)
def bI (b : Bool) : Int := bif b then 1 else 0
/-- A condition on one value. -/
def tru1 (o : Int) (x v : Va) : Int :=
  bif o == 5 then bI (x.1 == 0) else bif o == 6 then bI (x.1 != 0) else bif !canV x v then -1
  else bif o == 1 then bI ((bif canV x v then ordV x v else 0) == 0) else bif o == 2 then bI ((bif canV x v then ordV x v else 0) != 0)
  else bif o == 3 then bI (decide ((bif canV x v then ordV x v else 0) < 0)) else bif o == 4 then bI (decide ((bif canV x v then ordV x v else 0) > 0)) else -1
/-- A condition: its column, its operation, its value. -/
abbrev Cd := ByteArray × Int × Va
def cdV (c : Cd) : AV := .agg [.str c.1, .int .i64 c.2.1, .int .i64 c.2.2.1, .int .i64 c.2.2.2.1, .str c.2.2.2.2]
def truF (c : Cd) (cols r : List (List AV)) : Int :=
  match place cols c.1 with
  | none => -1
  | some j => bif decide ((j : Int) ≥ r.length) then -1 else tru1 c.2.1 (vaAt r j) c.2.2
def dTr : List AV → Option (Cd × Br × Br)
  | [.agg [.str c, .int .i64 o, .int .i64 k, .int .i64 n, .str s], .nilsl, .nilsl] => some ((c, o, k, n, s), .nil, .nil)
  | [.agg [.str c, .int .i64 o, .int .i64 k, .int .i64 n, .str s], .sl 3 f l, .nilsl] => some ((c, o, k, n, s), .sl f l, .nil)
  | [.agg [.str c, .int .i64 o, .int .i64 k, .int .i64 n, .str s], .nilsl, .sl 3 f l] => some ((c, o, k, n, s), .nil, .sl f l)
  | [.agg [.str c, .int .i64 o, .int .i64 k, .int .i64 n, .str s], .sl 3 f l, .sl 3 g r] => some ((c, o, k, n, s), .sl f l, .sl g r)
  | _ => none
theorem dTr_enc (l : List AV) (a : Cd × Br × Br) (h : dTr l = some a) : l = [cdV a.1, Br.av' 3 a.2.1, Br.av' 3 a.2.2] := by
  unfold dTr at h; split at h <;> first | (cases h; rfl) | cases h
theorem scoped_br {n m : Nat} {b : Br} {ts : List LT} (hts : ts.all scal = true) (h : ∀ r ∈ b.list, isRow ts r = true) (sz : Nat) : Scoped n m (Br.av' sz b) := by
  cases b with
  | nil => trivial
  | sl f l => exact scoped_rows hts h
theorem truth_spec (a : Cd × Br × Br) (h : (okC a.2.1 && okV a.2.2) = true) : ∃ st, f9.run 0 [cdV a.1, Br.av' 3 a.2.1, Br.av' 3 a.2.2] ⟨[], []⟩ = some (.ret (.int .i64 (truF a.1 a.2.1.list a.2.2.list)), st) := by
  obtain ⟨⟨c, o, k, n, s⟩, x, y⟩ := a
  simp only [Bool.and_eq_true] at h
  obtain ⟨hx, hy⟩ := h
  obtain ⟨hy1, hy2⟩ := okV_spec hy
  cases x with
  | nil =>
    have hn : ∀ r : List (List AV), truF (c, o, k, n, s) [] r = -1 := fun r => rfl
    cases y with
    | nil => exact ⟨_, truth_nn c s o k n⟩
    | sl g r => exact ⟨_, truth_ns g r c s o k n⟩
  | sl f l =>
    simp only [Br.list, Br.av'] at *
    cases y with
    | nil =>
      show ∃ st, f9.run 0 [.agg [.str c, .int .i64 o, .int .i64 k, .int .i64 n, .str s], .sl 3 f l, .nilsl] ⟨[], []⟩ = _
      rw [truth_sn, branch_of hx]
      simp only [truF]
      generalize place l c = pl
      cases pl with
      | none => exact ⟨_, rfl⟩
      | some j =>
        rw [branch_not (show (!(some j : Option Nat).isSome) = false from rfl), branch_of (decide_eq_true (show natI (some j) ≥ 0 by simp [natI]))]
        exact ⟨⟨[], []⟩, by simp⟩
    | sl g r =>
      show ∃ st, f9.run 0 [.agg [.str c, .int .i64 o, .int .i64 k, .int .i64 n, .str s], .sl 3 f l, .sl 3 g r] ⟨[], []⟩ = _
      rw [truth_ss, branch_of hx]
      simp only [truF]
      generalize place l c = pl
      cases pl with
      | none => exact ⟨_, rfl⟩
      | some j =>
        by_cases hj : j < r.length
        · rw [branch_not (show (!(some j : Option Nat).isSome) = false from rfl), branch_not (decide_eq_false (show ¬ natI (some j) ≥ (r.length : Int) by simp only [natI]; omega)), show natI (some j) = (j : Int) from rfl, branch_of (inR_nat hj), rowAt_nat hj, branch_of (isVa_is (hy1 _ (List.getElem_mem hj)))]
          simp only [show decide ((j : Int) ≥ r.length) = false from decide_eq_false (by omega), cond_false, vaAt, rowAt_nat hj, tru1]
          generalize hdI r[j] = A
          generalize hdI (r[j]).tail = B
          generalize hdS (r[j]).tail.tail = C
          cases o == 5 with
          | true => cases A == 0 <;> exact ⟨_, rfl⟩
          | false =>
            rw [branch_not rfl]
            cases o == 6 with
            | true => cases A != 0 <;> exact ⟨_, rfl⟩
            | false =>
              rw [branch_not rfl]
              cases canV (A, B, C) (k, n, s) with
              | false => exact ⟨_, rfl⟩
              | true =>
                rw [branch_not (show (!true) = false from rfl)]
                simp only [cond_true, Bool.not_true, cond_false]
                generalize ordV (A, B, C) (k, n, s) = X
                cases o == 1 with
                | true => cases X == 0 <;> exact ⟨_, rfl⟩
                | false =>
                  rw [branch_not rfl]
                  cases o == 2 with
                  | true => cases X != 0 <;> exact ⟨_, rfl⟩
                  | false =>
                    rw [branch_not rfl]
                    cases o == 3 with
                    | true =>
                      rw [branch_of rfl]
                      by_cases hX : X < 0
                      · rw [branch_of (decide_eq_true hX)]; simp only [cond_false, cond_true, bI, decide_eq_true hX]; exact ⟨_, rfl⟩
                      · rw [branch_not (decide_eq_false hX)]; simp only [cond_false, cond_true, bI, decide_eq_false hX]; exact ⟨_, rfl⟩
                    | false =>
                      rw [branch_not rfl]
                      cases o == 4 with
                      | true =>
                        rw [branch_of rfl]
                        by_cases hX : X > 0
                        · rw [branch_of (decide_eq_true hX)]; simp only [cond_false, cond_true, bI, decide_eq_true hX]; exact ⟨_, rfl⟩
                        · rw [branch_not (decide_eq_false hX)]; simp only [cond_false, cond_true, bI, decide_eq_false hX]; exact ⟨_, rfl⟩
                      | false => exact ⟨_, rfl⟩
        · rw [branch_not (show (!(some j : Option Nat).isSome) = false from rfl), branch_of (decide_eq_true (show natI (some j) ≥ (r.length : Int) by simp only [natI]; omega))]
          simp only [show decide ((j : Int) ≥ r.length) = true from decide_eq_true (by omega), cond_true]
          exact ⟨_, rfl⟩

theorem scoped_cd {n m : Nat} (c : Cd) : Scoped n m (cdV c) := ⟨trivial, trivial, trivial, trivial, trivial, trivial⟩
noncomputable def p9 : POrc Try.prog := f9.flatP dTr (fun a => [cdV a.1, Br.av' 3 a.2.1, Br.av' 3 a.2.2]) dTr_enc (fun a => okC a.2.1 && okV a.2.2) (fun a => .int .i64 (truF a.1 a.2.1.list a.2.2.list))
  (fun a h => by
    simp only [Bool.and_eq_true] at h
    exact ⟨scoped_cd _, scoped_br (ts := tCol) rfl (fun r hr => (okC_spec h.1).1 r hr) 3, scoped_br (ts := tVa) rfl (okV_spec h.2).1 3, trivial⟩) (fun _ => trivial) fun a h => ⟨0, truth_spec a h⟩
theorem p9_nat : p9.Nat := flatP_nat
end Go.Proofs.Ytnmglmkkeghnaaa.V

/- Cond: what is asked of a truth. -/
set_option linter.unusedVariables false
namespace Go.Proofs.Ytnmglmkkeghnaaa.V
open Go Go.V Go.RowKit
def dI : List AV → Option Int
  | [.int .i64 n] => some n
  | _ => none
theorem dI_enc (l : List AV) (a : Int) (h : dI l = some a) : l = [.int .i64 a] := by
  unfold dI at h; split at h <;> first | (cases h; rfl) | cases h
noncomputable def p19 : POrc Try.prog := f19.pureOf dI (fun n => [.int .i64 n]) dI_enc (fun n => .bool (n != 1)) (fun a => ⟨rfl, fun _ _ => trivial⟩) fun n => ⟨0, fun st => is1_run n st⟩
noncomputable def p20 : POrc Try.prog := f20.pureOf dI (fun n => [.int .i64 n]) dI_enc (fun n => .bool (n == 0)) (fun a => ⟨rfl, fun _ _ => trivial⟩) fun n => ⟨0, fun st => is0_run n st⟩
noncomputable def PsIs : List (POrc Try.prog) := [p19, p20]
theorem PsIs_nat : ∀ O ∈ PsIs, O.Nat := by
  intro O hO
  simp only [PsIs, List.mem_cons, List.not_mem_nil, or_false] at hO
  rcases hO with rfl | rfl <;> exact pureOf_nat
end Go.Proofs.Ytnmglmkkeghnaaa.V

/- The functions' pieces, as told by gen.py. -/
set_option linter.unusedVariables false
set_option maxRecDepth 20000
namespace Go.Proofs.Ytnmglmkkeghnaaa.V
open Go Go.V Go.RowKit

noncomputable abbrev d49 : TypeDesc := (Try.prog.underlying 49).getD .bool
theorem ud49 : Try.prog.underlying 49 = some d49 := by kernel_rfl
theorem sz49 : (Try.prog.info? 49).map (·.size) = some 1 := by kernel_rfl
noncomputable abbrev d25 : TypeDesc := (Try.prog.underlying 25).getD .bool
theorem ud25 : Try.prog.underlying 25 = some d25 := by kernel_rfl
theorem sz25 : (Try.prog.info? 25).map (·.size) = some 5 := by kernel_rfl
theorem sz26 : (Try.prog.info? 26).map (·.size) = some 1 := by kernel_rfl
theorem sz28 : (Try.prog.info? 28).map (·.size) = some 1 := by kernel_rfl

/-! ### 29: interlock/cond.some$1 (25); results 5; slots: 0 c, 4 c -/
noncomputable def f29_b (Os : List (Orc Try.prog)) : Sim Try.prog :=
  (.seq (.live [1, 2, 3, 4] (.region 0 [
    ⟨(opBoxF (some 4) 25 (.tmp 0) 0 "cond.go:93" #[]).op, none⟩,
    ⟨(opAssign (some 5) (.const (Value.bool false)) 4 "cond.go:93" #[]).op, none⟩
  ] (by kernel_rfl)))
  (.seq (.live [5] (.draw 1 [
    ⟨.qn (opLoadT (.one .any) (some 6) 49 (.tmp 1) d49 ud49 1 sz49 (by kernel_rfl) 49 "cond.go:93" #[]) opLoadT_nat, none⟩,
    ⟨.qn (opLoadT (.agg [.str, (.int .i64), (.int .i64), (.int .i64), .str]) (some 7) 25 (.tmp 4) d25 ud25 5 sz25 (by kernel_rfl) 25 "cond.go:93" #[]) opLoadT_nat, none⟩,
    ⟨.qn (opLoadT (.one .any) (some 8) 26 (.tmp 2) (.slice 42) Try.underlying26 1 sz26 (by kernel_rfl) 26 "cond.go:93" #[]) opLoadT_nat, none⟩,
    ⟨.qn (opLoadT (.one .any) (some 9) 28 (.tmp 3) (.slice 23) Try.underlying28 1 sz28 (by kernel_rfl) 28 "cond.go:93" #[]) opLoadT_nat, none⟩,
    ⟨.pn (opCallP p9 (some 10) [(.tmp 7), (.tmp 8), (.tmp 9)] #[25, 26, 28] 3 "cond.go:93" #[{ on := 1, ground := Ground.data }, { on := 2, ground := Ground.data }, { on := 3, ground := Ground.data }]) (opCallP_nat p9_nat), none⟩,
    ⟨.pn (opCallDynP PsIs (some 11) 6 [(.tmp 10)] #[3] 4 "cond.go:93" #[{ on := 0, ground := Ground.data }, { on := 4, ground := Ground.data }, { on := 4, ground := Ground.chain }]) (opCallDynP_nat PsIs_nat), none⟩,
    ⟨.p (opAssign (some 5) (.tmp 11) 4 "cond.go:93" #[{ on := 5, ground := Ground.data }, { on := 5, ground := Ground.chain }, { on := 0, ground := Ground.phase }, { on := 1, ground := Ground.phase }, { on := 2, ground := Ground.phase }, { on := 3, ground := Ground.phase }, { on := 4, ground := Ground.phase }, { on := 5, ground := Ground.phase }]), none⟩
  ] mixed (by kernel_rfl)))
  (.live [5] .ret)))

noncomputable def f29 (Os : List (Orc Try.prog)) : Fun Try.prog where
  id := 29
  fn := Try.f29
  hf := Try.func29
  hname := by kernel_rfl
  body := f29_b Os
  hbody := by kernel_rfl
  res := [rTmp 5]
  hres := by kernel_rfl
  n := 12
  hn := by kernel_rfl

end Go.Proofs.Ytnmglmkkeghnaaa.V

/- What the functions' runs come to; the right sides were printed by a tool, Lean checks them. -/
set_option linter.unusedVariables false
set_option maxRecDepth 100000
namespace Go.Proofs.Ytnmglmkkeghnaaa.V
open Go Go.V Go.RowKit

theorem s1_ss19 (f g : Bool) (l r : List (List AV)) (c s : ByteArray) (o k n : Int) (st : St) :
    ((f29 []).run 0 [.agg [.str c, .int .i64 o, .int .i64 k, .int .i64 n, .str s], .eptr [.fn (.func 19) [] []], .eptr [.sl 3 f l], .eptr [.sl 3 g r]] st : Ans) =
    branch (AV.bool (okC (Br.sl f l) && okV (Br.sl g r))) (some (Fin.ret (AV.bool (truF (c, o, k, n, s) l r != 1)), st))
      none := by kernel_rfl

theorem s1_ss20 (f g : Bool) (l r : List (List AV)) (c s : ByteArray) (o k n : Int) (st : St) :
    ((f29 []).run 0 [.agg [.str c, .int .i64 o, .int .i64 k, .int .i64 n, .str s], .eptr [.fn (.func 20) [] []], .eptr [.sl 3 f l], .eptr [.sl 3 g r]] st : Ans) =
    branch (AV.bool (okC (Br.sl f l) && okV (Br.sl g r))) (some (Fin.ret (AV.bool (truF (c, o, k, n, s) l r == 0)), st))
      none := by kernel_rfl

theorem s1_ns19 (g : Bool) (r : List (List AV)) (c s : ByteArray) (o k n : Int) (st : St) :
    ((f29 []).run 0 [.agg [.str c, .int .i64 o, .int .i64 k, .int .i64 n, .str s], .eptr [.fn (.func 19) [] []], .eptr [.nilsl], .eptr [.sl 3 g r]] st : Ans) =
    branch (AV.bool (true && okV (Br.sl g r))) (some (Fin.ret (AV.bool true), st)) none := by kernel_rfl

theorem s1_ns20 (g : Bool) (r : List (List AV)) (c s : ByteArray) (o k n : Int) (st : St) :
    ((f29 []).run 0 [.agg [.str c, .int .i64 o, .int .i64 k, .int .i64 n, .str s], .eptr [.fn (.func 20) [] []], .eptr [.nilsl], .eptr [.sl 3 g r]] st : Ans) =
    branch (AV.bool (true && okV (Br.sl g r))) (some (Fin.ret (AV.bool false), st)) none := by kernel_rfl

theorem s1_sn19 (f : Bool) (l : List (List AV)) (c s : ByteArray) (o k n : Int) (st : St) :
    ((f29 []).run 0 [.agg [.str c, .int .i64 o, .int .i64 k, .int .i64 n, .str s], .eptr [.fn (.func 19) [] []], .eptr [.sl 3 f l], .eptr [.nilsl]] st : Ans) =
    branch (AV.bool (okC (Br.sl f l) && true)) (some (Fin.ret (AV.bool (truF (c, o, k, n, s) l [] != 1)), st)) none := by kernel_rfl

theorem s1_sn20 (f : Bool) (l : List (List AV)) (c s : ByteArray) (o k n : Int) (st : St) :
    ((f29 []).run 0 [.agg [.str c, .int .i64 o, .int .i64 k, .int .i64 n, .str s], .eptr [.fn (.func 20) [] []], .eptr [.sl 3 f l], .eptr [.nilsl]] st : Ans) =
    branch (AV.bool (okC (Br.sl f l) && true)) (some (Fin.ret (AV.bool (truF (c, o, k, n, s) l [] == 0)), st)) none := by kernel_rfl

theorem s1_nn19 (c s : ByteArray) (o k n : Int) (st : St) :
    ((f29 []).run 0 [.agg [.str c, .int .i64 o, .int .i64 k, .int .i64 n, .str s], .eptr [.fn (.func 19) [] []], .eptr [.nilsl], .eptr [.nilsl]] st : Ans) =
    some (Fin.ret (AV.bool true), st) := by kernel_rfl

theorem s1_nn20 (c s : ByteArray) (o k n : Int) (st : St) :
    ((f29 []).run 0 [.agg [.str c, .int .i64 o, .int .i64 k, .int .i64 n, .str s], .eptr [.fn (.func 20) [] []], .eptr [.nilsl], .eptr [.nilsl]] st : Ans) =
    some (Fin.ret (AV.bool false), st) := by kernel_rfl

end Go.Proofs.Ytnmglmkkeghnaaa.V

/- Cond: a condition asked of a row, as a callee. -/
set_option linter.unusedVariables false
namespace Go.Proofs.Ytnmglmkkeghnaaa.V
open Go Go.V Go.RowKit

/-- A slice, read no deeper than it must. -/
def brN (sz : Nat) (x : AV) : Option Br :=
  match x with
  | .nilsl => some .nil
  | .sl s f l => match Nat.beq s sz with
    | true => some (.sl f l)
    | false => none
  | _ => none
theorem brN_eq {sz : Nat} {x : AV} {b : Br} (h : brN sz x = some b) : x = Br.av' sz b := by
  unfold brN at h
  split at h
  · cases h; rfl
  · split at h
    · rename_i h1; cases h; rw [Nat.eq_of_beq_eq_true h1]; rfl
    · cases h
  · cases h
theorem brN_av (sz : Nat) (b : Br) : brN sz (Br.av' sz b) = some b := by
  cases b with
  | nil => rfl
  | sl f l => simp [brN, Br.av']
/-- Not true, or false: what is asked. -/
def isW (w : Nat) (t : Int) : Bool :=
  match w with
  | 19 => t != 1
  | _ => t == 0
def okW (w : Nat) : Bool := Nat.beq w 19 || Nat.beq w 20
def fnW (w : Nat) : AV := .fn (.func w) [] []
abbrev Qu := Nat × Br × Br
def quA (q : Qu) : List AV := [.eptr [fnW q.1], .eptr [Br.av' 3 q.2.1], .eptr [Br.av' 3 q.2.2]]
def dQu : List AV → Option Qu
  | [.eptr [.fn (.func w) [] []], .eptr [x], .eptr [y]] => match brN 3 x, brN 3 y with
    | some a, some b => match okW w with
      | true => some (w, a, b)
      | false => none
    | _, _ => none
  | _ => none
theorem dQu_enc {l : List AV} {q : Qu} (h : dQu l = some q) : l = quA q ∧ (q.1 = 19 ∨ q.1 = 20) := by
  unfold dQu at h
  split at h
  · split at h
    · rename_i h1 h2
      split at h
      · rename_i hw
        cases h
        rw [brN_eq h1, brN_eq h2]
        simp only [okW, Bool.or_eq_true] at hw
        exact ⟨rfl, hw.imp Nat.eq_of_beq_eq_true Nat.eq_of_beq_eq_true⟩
      · cases h
    · cases h
  · cases h
def quOk (q : Qu) : Bool := okC q.2.1 && okV q.2.2
/-- What a condition answers. -/
def quF (q : Qu) (c : Cd) : Bool := isW q.1 (truF c q.2.1.list q.2.2.list)
def dS1 : List AV → Option (Cd × Qu)
  | .agg [.str c, .int .i64 o, .int .i64 k, .int .i64 n, .str s] :: r => match dQu r with
    | some q => some ((c, o, k, n, s), q)
    | none => none
  | _ => none
theorem dS1_enc {l : List AV} {a : Cd × Qu} (h : dS1 l = some a) : l = cdV a.1 :: quA a.2 ∧ (a.2.1 = 19 ∨ a.2.1 = 20) := by
  unfold dS1 at h
  split at h
  · split at h
    · rename_i h1; cases h
      obtain ⟨h2, h3⟩ := dQu_enc h1
      rw [h2]
      exact ⟨rfl, h3⟩
    · cases h
  · cases h
theorem f29_spec (c : Cd) (q : Qu) (hq : q.1 = 19 ∨ q.1 = 20) (h : quOk q = true) (st : St) : (f29 []).run 0 (cdV c :: quA q) st = some (.ret (.bool (quF q c)), st) := by
  obtain ⟨c, o, k, n, s⟩ := c
  obtain ⟨w, x, y⟩ := q
  simp only at hq
  have h' : (okC x && okV y) = true := h
  rcases hq with rfl | rfl
  · cases x with
    | nil =>
      cases y with
      | nil => exact s1_nn19 c s o k n st
      | sl g r => exact (s1_ns19 g r c s o k n st).trans (by rw [branch_of (show (true && okV (Br.sl g r)) = true from h')]; rfl)
    | sl f l =>
      cases y with
      | nil => exact (s1_sn19 f l c s o k n st).trans (by rw [branch_of (show (okC (Br.sl f l) && true) = true from h')]; rfl)
      | sl g r => exact (s1_ss19 f g l r c s o k n st).trans (by rw [branch_of h']; rfl)
  · cases x with
    | nil =>
      cases y with
      | nil => exact s1_nn20 c s o k n st
      | sl g r => exact (s1_ns20 g r c s o k n st).trans (by rw [branch_of (show (true && okV (Br.sl g r)) = true from h')]; rfl)
    | sl f l =>
      cases y with
      | nil => exact (s1_sn20 f l c s o k n st).trans (by rw [branch_of (show (okC (Br.sl f l) && true) = true from h')]; rfl)
      | sl g r => exact (s1_ss20 f g l r c s o k n st).trans (by rw [branch_of h']; rfl)

noncomputable def p29 : POrc Try.prog := (f29 []).pureIf dS1 (fun a => cdV a.1 :: quA a.2) (fun l a h => (dS1_enc h).1) (fun a => okW a.2.1 && quOk a.2) (fun a => .bool (quF a.2 a.1)) (fun a _ => ⟨rfl, fun _ _ => trivial⟩) fun a h => ⟨0, fun st => by
  simp only [Bool.and_eq_true] at h
  refine f29_spec a.1 a.2 ?_ h.2 st
  have := h.1
  simp only [okW, Bool.or_eq_true] at this
  exact this.imp Nat.eq_of_beq_eq_true Nat.eq_of_beq_eq_true⟩
noncomputable def OsS : List (Orc Try.prog) := [p29.orcS.orc, f24.orc 0]
end Go.Proofs.Ytnmglmkkeghnaaa.V

/- The functions' pieces, as told by gen.py. -/
set_option linter.unusedVariables false
set_option maxRecDepth 20000
namespace Go.Proofs.Ytnmglmkkeghnaaa.V
open Go Go.V Go.RowKit


/-! ### 23: slices.IndexFunc[[]interlock/api.Cond,interlock/api.Cond] (31, 53); results 4; slots: 0 s, 1 f, 2 s, 3 f, 5 i -/
/-- A loop's round; at its head live: 0 s, 1 f, 7 , 8  -/
noncomputable def f23_l0 (Os : List (Orc Try.prog)) : Sim Try.prog :=
  (.seq (.live [0, 1, 7, 8, 9] (.region 2 [
    ⟨(opBin (some 9) .lss 3 (.tmp 8) (.tmp 7) 3 0 "slices.go:108" #[]).op, none⟩
  ] (by kernel_rfl)))
  (.seq (.cond (.tmp 9)
    .skip
    (.live [] (.exit 0)))
  (.seq (.block 1 (.seq (.live [0, 1, 5, 7, 8] (.region 3 [
      ⟨(opMove (some 10) (.tmp 8) 3 "slices.go:108" #[]).op, none⟩,
      ⟨(opAssign (some 5) (.tmp 10) 3 "slices.go:108" #[{ on := 0, ground := Ground.data }, { on := 0, ground := Ground.phase }]).op, none⟩
    ] (by kernel_rfl)))
    (.seq (.live [0, 1, 5, 7, 8, 16] (.region 4 [
      ⟨(opMove (some 11) (.tmp 1) 53 "slices.go:109" #[]).op, none⟩,
      ⟨(opMove (some 12) (.tmp 0) 31 "slices.go:109" #[]).op, none⟩,
      ⟨(opMove (some 13) (.tmp 5) 3 "slices.go:109" #[]).op, none⟩,
      ⟨(opIndexAddrT (some 14) 31 (.tmp 12) (.tmp 13) 25 5 Try.underlying31 sz25 0 "slices.go:109" #[{ on := 1, ground := Ground.data }, { on := 2, ground := Ground.data }]).op, none⟩,
      ⟨(opLoadT (.agg [.str, (.int .i64), (.int .i64), (.int .i64), .str]) (some 15) 25 (.tmp 14) d25 ud25 5 sz25 (by kernel_rfl) 25 "slices.go:109" #[{ on := 3, ground := Ground.data }]).op, none⟩,
      ⟨opCallDyn Os (some 16) 11 [(.tmp 15)] #[25] 4 "slices.go:109" #[{ on := 0, ground := Ground.data }, { on := 4, ground := Ground.data }], none⟩
    ] (by kernel_rfl)))
    (.cond (.tmp 16)
      (.seq (.live [4] (.region 5 [
        ⟨(opMove (some 17) (.tmp 5) 3 "slices.go:110" #[]).op, none⟩,
        ⟨(opAssign (some 4) (.tmp 17) 3 "slices.go:110" #[{ on := 0, ground := Ground.data }, { on := 0, ground := Ground.phase }]).op, none⟩
      ] (by kernel_rfl)))
      (.live [4] .ret))
      .skip))))
  (.live [0, 1, 7, 8] (.region 6 [
    ⟨(opBin (some 18) .add 3 (.tmp 8) (.const (Value.int IntKind.i64 1)) 3 3 "slices.go:108" #[]).op, none⟩,
    ⟨(opMove (some 8) (.tmp 18) 3 "slices.go:108" #[{ on := 0, ground := Ground.data }]).op, none⟩
  ] (by kernel_rfl))))))

/-- What follows a loop. -/
noncomputable def f23_r0 (Os : List (Orc Try.prog)) : Sim Try.prog :=
  (.seq (.live [4] (.region 7 [
    ⟨(opAssign (some 4) (.const (Value.int IntKind.i64 (-1))) 3 "slices.go:113" #[]).op, none⟩
  ] (by kernel_rfl)))
  (.live [4] .ret))

noncomputable def f23_b (Os : List (Orc Try.prog)) : Sim Try.prog :=
  (.seq (.live [0, 1] (.region 0 [
    ⟨(opAssign (some 4) (.const (Value.int IntKind.i64 0)) 3 "slices.go:107" #[]).op, none⟩
  ] (by kernel_rfl)))
  (.seq (.seq (.live [0, 1, 7, 8] (.region 1 [
    ⟨(opMove (some 6) (.tmp 0) 31 "slices.go:108" #[]).op, none⟩,
    ⟨(opLen (some 7) (.tmp 6) 31 (.slice 25) Try.underlying31 3 "slices.go:108" #[{ on := 0, ground := Ground.data }]).op, none⟩,
    ⟨(opMove (some 8) (.const (Value.int IntKind.i64 0)) 3 "slices.go:108" #[]).op, none⟩
  ] (by kernel_rfl)))
  (.block 0 (.loop [0, 1, 7, 8] (f23_l0 Os))))
  (f23_r0 Os)))

noncomputable def f23 (Os : List (Orc Try.prog)) : Fun Try.prog where
  id := 23
  fn := Try.f23
  hf := Try.func23
  hname := by kernel_rfl
  body := f23_b Os
  hbody := by kernel_rfl
  res := [rTmp 4]
  hres := by kernel_rfl
  n := 19
  hn := by kernel_rfl

end Go.Proofs.Ytnmglmkkeghnaaa.V

/- What the functions' runs come to; the right sides were printed by a tool, Lean checks them. -/
set_option linter.unusedVariables false
set_option maxRecDepth 100000
namespace Go.Proofs.Ytnmglmkkeghnaaa.V
open Go Go.V Go.RowKit

theorem ix_run (F : Nat) (f : Bool) (l : List (List AV)) (w : Nat) (x y : AV) (st : St) :
    ((f23 OsS).run F [.sl 5 f l, .fn (.func 29) [] [.eptr [.fn (.func w) [] []], .eptr [x], .eptr [y]]] st : Ans) =
    loopRun ((f23_l0 OsS).run F) [0, 1, 7, 8]
      (Cont.block 0 (Cont.then ((f23_r0 OsS).run F ((f23 OsS).leaveK Fun.done)) ((f23 OsS).leaveK Fun.done))) F
      (Env.mk 19
        [(0, AV.sl 5 f l), (1, AV.fn (Fn.func 29) [] [AV.eptr [AV.fn (Fn.func w) [] []], AV.eptr [x], AV.eptr [y]]),
          (7, AV.int IntKind.i64 (↑l.length : Int)), (8, AV.int IntKind.i64 0)])
      st := by kernel_rfl

theorem ix_nil (F : Nat) (w : Nat) (x y : AV) (st : St) :
    ((f23 OsS).run F.succ [.nilsl, .fn (.func 29) [] [.eptr [.fn (.func w) [] []], .eptr [x], .eptr [y]]] st : Ans) =
    some (Fin.ret (AV.int IntKind.i64 (-1)), st) := by kernel_rfl

theorem ix_round (F m : Nat) (K : Cont) (f : Bool) (i : Int) (l : List (List AV)) (w : Nat) (x y : AV) (st : St) :
    (loopRun ((f23_l0 OsS).run F) [0, 1, 7, 8] K m.succ (Env.mk 19 [(0, .sl 5 f l), (1, .fn (.func 29) [] [.eptr [.fn (.func w) [] []], .eptr [x], .eptr [y]]), (7, .int .i64 l.length), (8, .int .i64 i)]) st : Ans) =
    branch (AV.bool (decide (i < (↑l.length : Int))))
      (branch (AV.bool (inR l i))
        (branch
          (AV.bool ((LD.agg [LT.str, LT.int IntKind.i64, LT.int IntKind.i64, LT.int IntKind.i64, LT.str]).is (V.rowAt l i)))
          (onSome
            (dS1
              [AV.agg
                  [AV.str (hdS (V.rowAt l i)), AV.int IntKind.i64 (hdI (V.rowAt l i).tail),
                    AV.int IntKind.i64 (hdI (V.rowAt l i).tail.tail), AV.int IntKind.i64 (hdI (V.rowAt l i).tail.tail.tail),
                    AV.str (hdS (V.rowAt l i).tail.tail.tail.tail)],
                AV.eptr [AV.fn (Fn.func w) [] []], AV.eptr [x], AV.eptr [y]])
            none fun (o : Cd × Qu) =>
            branch (AV.bool (okW o.snd.fst && quOk o.snd))
              (branch (AV.bool (quF o.snd o.fst)) (K AX.ret (Env.mk 19 [(4, AV.int IntKind.i64 i)]) st)
                (loopRun ((f23_l0 OsS).run F) [0, 1, 7, 8] K m
                  (Env.mk 19
                    [(0, AV.sl 5 f l),
                      (1, AV.fn (Fn.func 29) [] [AV.eptr [AV.fn (Fn.func w) [] []], AV.eptr [x], AV.eptr [y]]),
                      (7, AV.int IntKind.i64 (↑l.length : Int)), (8, AV.int IntKind.i64 (IntKind.i64.wrap (i + 1)))])
                  st))
              none)
          none)
        none)
      (K (AX.exit 0) (Env.mk 19 []) st) := by kernel_rfl

theorem ix_ret (F : Nat) (i : Int) (st : St) :
    ((Cont.block 0 (Cont.then ((f23_r0 OsS).run F ((f23 OsS).leaveK Fun.done)) ((f23 OsS).leaveK Fun.done))) .ret (Env.mk 19 [(4, .int .i64 i)]) st : Ans) =
    some (Fin.ret (AV.int IntKind.i64 i), st) := by kernel_rfl

theorem ix_out (F : Nat) (st : St) :
    ((Cont.block 0 (Cont.then ((f23_r0 OsS).run F ((f23 OsS).leaveK Fun.done)) ((f23 OsS).leaveK Fun.done))) (.exit 0) (Env.mk 19 []) st : Ans) =
    some (Fin.ret (AV.int IntKind.i64 (-1)), st) := by kernel_rfl

theorem eq_run (F : Nat) (f : Bool) (l : List (List AV)) (s : ByteArray) (st : St) :
    ((f23 OsS).run F [.sl 5 f l, .fn (.func 24) [] [.eptr [.str s]]] st : Ans) =
    loopRun ((f23_l0 OsS).run F) [0, 1, 7, 8]
      (Cont.block 0 (Cont.then ((f23_r0 OsS).run F ((f23 OsS).leaveK Fun.done)) ((f23 OsS).leaveK Fun.done))) F
      (Env.mk 19
        [(0, AV.sl 5 f l), (1, AV.fn (Fn.func 24) [] [AV.eptr [AV.str s]]), (7, AV.int IntKind.i64 (↑l.length : Int)),
          (8, AV.int IntKind.i64 0)])
      st := by kernel_rfl

theorem eq_nil (F : Nat) (s : ByteArray) (st : St) :
    ((f23 OsS).run F.succ [.nilsl, .fn (.func 24) [] [.eptr [.str s]]] st : Ans) =
    some (Fin.ret (AV.int IntKind.i64 (-1)), st) := by kernel_rfl

theorem eq_round (F m : Nat) (K : Cont) (f : Bool) (i : Int) (l : List (List AV)) (s : ByteArray) (st : St) :
    (loopRun ((f23_l0 OsS).run F) [0, 1, 7, 8] K m.succ (Env.mk 19 [(0, .sl 5 f l), (1, .fn (.func 24) [] [.eptr [.str s]]), (7, .int .i64 l.length), (8, .int .i64 i)]) st : Ans) =
    branch (AV.bool (decide (i < (↑l.length : Int))))
      (branch (AV.bool (inR l i))
        (branch
          (AV.bool ((LD.agg [LT.str, LT.int IntKind.i64, LT.int IntKind.i64, LT.int IntKind.i64, LT.str]).is (V.rowAt l i)))
          (branch (AV.bool (hdI (V.rowAt l i).tail == 1))
            (branch (AV.bool ((hdS (V.rowAt l i)).toList == s.toList)) (K AX.ret (Env.mk 19 [(4, AV.int IntKind.i64 i)]) st)
              (loopRun ((f23_l0 OsS).run F) [0, 1, 7, 8] K m
                (Env.mk 19
                  [(0, AV.sl 5 f l), (1, AV.fn (Fn.func 24) [] [AV.eptr [AV.str s]]),
                    (7, AV.int IntKind.i64 (↑l.length : Int)), (8, AV.int IntKind.i64 (IntKind.i64.wrap (i + 1)))])
                st))
            (loopRun ((f23_l0 OsS).run F) [0, 1, 7, 8] K m
              (Env.mk 19
                [(0, AV.sl 5 f l), (1, AV.fn (Fn.func 24) [] [AV.eptr [AV.str s]]),
                  (7, AV.int IntKind.i64 (↑l.length : Int)), (8, AV.int IntKind.i64 (IntKind.i64.wrap (i + 1)))])
              st))
          none)
        none)
      (K (AX.exit 0) (Env.mk 19 []) st) := by kernel_rfl

end Go.Proofs.Ytnmglmkkeghnaaa.V

/- Cond: the first condition that fits, as a callee. -/
set_option linter.unusedVariables false
namespace Go.Proofs.Ytnmglmkkeghnaaa.V
open Go Go.V Go.RowKit

def tCd : List LT := [LT.str, LT.int .i64, LT.int .i64, LT.int .i64, LT.str]
def okL (b : Br) : Bool := b.list.all (isRow tCd) && decide (b.list.length ≤ 1000000)
theorem okL_spec {b : Br} (h : okL b = true) : (∀ r ∈ b.list, isRow tCd r = true) ∧ b.list.length ≤ 1000000 := by
  unfold okL at h
  simp only [Bool.and_eq_true, decide_eq_true_eq] at h
  exact ⟨List.all_eq_true.mp h.1, h.2⟩
theorem isCd_is {r : List AV} (h : isRow tCd r = true) : (LD.agg [LT.str, LT.int .i64, LT.int .i64, LT.int .i64, LT.str]).is r = true := by
  simp only [isRow, Bool.and_eq_true] at h
  exact h.1
/-- A row's condition. -/
def cdAt (r : List AV) : Cd := (hdS r, hdI r.tail, hdI r.tail.tail, hdI r.tail.tail.tail, hdS r.tail.tail.tail.tail)
theorem okW_of {w : Nat} (h : w = 19 ∨ w = 20) : okW w = true := by rcases h with rfl | rfl <;> rfl
theorem dQu_of {q : Qu} (h : okW q.1 = true) : dQu (quA q) = some q := by
  obtain ⟨w, x, y⟩ := q
  show (match brN 3 (Br.av' 3 x), brN 3 (Br.av' 3 y) with
    | some a, some b => (match okW w with
      | true => some (w, a, b)
      | false => none)
    | _, _ => none) = _
  rw [brN_av, brN_av]
  simp only
  rw [show okW w = true from h]
theorem dS1_of {c : Cd} {q : Qu} (h : okW q.1 = true) : dS1 (cdV c :: quA q) = some (c, q) := by
  show (match dQu (quA q) with
    | some q => some (c, q)
    | none => none) = _
  rw [dQu_of h]
def dIS : List AV → Option (Br × Qu)
  | [z, .fn (.func 29) [] cs] => match brN 5 z, dQu cs with
    | some b, some q => some (b, q)
    | _, _ => none
  | _ => none
theorem dIS_enc (l : List AV) (a : Br × Qu) (h : dIS l = some a) : l = [Br.av' 5 a.1, .fn (.func 29) [] (quA a.2)] := by
  unfold dIS at h
  split at h
  · split at h
    · rename_i h1 h2
      cases h
      rw [brN_eq h1, (dQu_enc h2).1]
    · cases h
  · cases h
theorem ix_spec (a : Br × Qu) (h : (okL a.1 && (okW a.2.1 && quOk a.2)) = true) : ∃ F, ∀ st, (f23 OsS).run F [Br.av' 5 a.1, .fn (.func 29) [] (quA a.2)] st = some (.ret (.int .i64 (idxI (idxFrom (fun r => quF a.2 (cdAt r)) a.1.list 0))), st) := by
  obtain ⟨b, q⟩ := a
  simp only [Bool.and_eq_true] at h
  obtain ⟨hb, hw, hq⟩ := h
  obtain ⟨h1, h2⟩ := okL_spec hb
  cases b with
  | nil => exact ⟨1, fun st => ix_nil 0 q.1 (Br.av' 3 q.2.1) (Br.av' 3 q.2.2) st⟩
  | sl f l =>
    simp only [Br.list] at h1 h2
    refine ⟨l.length + 1, fun st => ?_⟩
    refine (ix_run (l.length + 1) f l q.1 (Br.av' 3 q.2.1) (Br.av' 3 q.2.2) st).trans ?_
    have := find_loop (R := fun m i => loopRun ((f23_l0 OsS).run (l.length + 1)) [0, 1, 7, 8] (Cont.block 0 (Cont.then ((f23_r0 OsS).run (l.length + 1) ((f23 OsS).leaveK Fun.done)) ((f23 OsS).leaveK Fun.done))) m (Env.mk 19 [(0, .sl 5 f l), (1, .fn (.func 29) [] (quA q)), (7, .int .i64 l.length), (8, .int .i64 (i : Nat))]) st)
      (l := l) (p := fun r => quF q (cdAt r)) (ok := fun r => (LD.agg [LT.str, LT.int .i64, LT.int .i64, LT.int .i64, LT.str]).is r) (found := fun i => some (.ret (.int .i64 (i : Nat)), st)) (out := some (.ret (.int .i64 (-1)), st))
      (fun m i hi => by
        refine (ix_round (l.length + 1) m _ f i l q.1 (Br.av' 3 q.2.1) (Br.av' 3 q.2.2) st).trans ?_
        have hd := dS1_of (c := cdAt (V.rowAt l i)) (q := q) hw
        simp only [cdV, cdAt, quA, fnW] at hd
        rw [ix_ret, ix_out, hd]
        simp only [onSome]
        rw [branch_of (show (okW q.1 && quOk q) = true by rw [hw, hq]; rfl)]
        by_cases hlt : i < l.length
        · rw [show IntKind.i64.wrap ((i : Int) + 1) = ((i + 1 : Nat) : Int) by rw [wrapS (by omega) (by omega)]; omega]
          rfl
        · rw [branch_not (decide_eq_false (by omega)), branch_not (decide_eq_false (by omega))])
      (fun r hr => isCd_is (h1 r hr)) l.length 0 (l.length + 1) (by omega) (by omega)
    refine this.trans ?_
    rw [List.drop_zero]
    simp only [Br.list]
    cases idxFrom (fun r => quF q (cdAt r)) l 0 <;> rfl
noncomputable def p23s : POrc Try.prog := (f23 OsS).pureIf dIS (fun a => [Br.av' 5 a.1, .fn (.func 29) [] (quA a.2)]) dIS_enc (fun a => okL a.1 && (okW a.2.1 && quOk a.2)) (fun a => .int .i64 (idxI (idxFrom (fun r => quF a.2 (cdAt r)) a.1.list 0))) (fun a _ => ⟨rfl, fun _ _ => trivial⟩) ix_spec
theorem p23s_nat : p23s.Nat := pureIf_nat

/-- Does a condition ask that a column be equal? -/
def eqTo (s : ByteArray) (r : List AV) : Bool := hdI r.tail == 1 && (hdS r).toList == s.toList
def dIE : List AV → Option (Br × ByteArray)
  | [z, .fn (.func 24) [] [.eptr [.str s]]] => match brN 5 z with
    | some b => some (b, s)
    | none => none
  | _ => none
theorem dIE_enc (l : List AV) (a : Br × ByteArray) (h : dIE l = some a) : l = [Br.av' 5 a.1, .fn (.func 24) [] [.eptr [.str a.2]]] := by
  unfold dIE at h
  split at h
  · split at h
    · rename_i h1
      cases h
      rw [brN_eq h1]
    · cases h
  · cases h
theorem eq_spec (a : Br × ByteArray) (h : okL a.1 = true) : ∃ F, ∀ st, (f23 OsS).run F [Br.av' 5 a.1, .fn (.func 24) [] [.eptr [.str a.2]]] st = some (.ret (.int .i64 (idxI (idxFrom (eqTo a.2) a.1.list 0))), st) := by
  obtain ⟨b, s⟩ := a
  obtain ⟨h1, h2⟩ := okL_spec h
  cases b with
  | nil => exact ⟨1, fun st => eq_nil 0 s st⟩
  | sl f l =>
    simp only [Br.list] at h1 h2
    refine ⟨l.length + 1, fun st => ?_⟩
    refine (eq_run (l.length + 1) f l s st).trans ?_
    have := find_loop (R := fun m i => loopRun ((f23_l0 OsS).run (l.length + 1)) [0, 1, 7, 8] (Cont.block 0 (Cont.then ((f23_r0 OsS).run (l.length + 1) ((f23 OsS).leaveK Fun.done)) ((f23 OsS).leaveK Fun.done))) m (Env.mk 19 [(0, .sl 5 f l), (1, .fn (.func 24) [] [.eptr [.str s]]), (7, .int .i64 l.length), (8, .int .i64 (i : Nat))]) st)
      (l := l) (p := eqTo s) (ok := fun r => (LD.agg [LT.str, LT.int .i64, LT.int .i64, LT.int .i64, LT.str]).is r) (found := fun i => some (.ret (.int .i64 (i : Nat)), st)) (out := some (.ret (.int .i64 (-1)), st))
      (fun m i hi => by
        rw [show m + 1 = m.succ from rfl, eq_round, ix_ret, ix_out]
        by_cases hlt : i < l.length
        · rw [show IntKind.i64.wrap ((i : Int) + 1) = ((i + 1 : Nat) : Int) by rw [wrapS (by omega) (by omega)]; omega]
          simp only [eqTo]
          cases hdI (V.rowAt l i).tail == 1 <;> rfl
        · rw [branch_not (decide_eq_false (by omega)), branch_not (decide_eq_false (by omega))])
      (fun r hr => isCd_is (h1 r hr)) l.length 0 (l.length + 1) (by omega) (by omega)
    refine this.trans ?_
    rw [List.drop_zero]
    simp only [Br.list]
    cases idxFrom (eqTo s) l 0 <;> rfl
noncomputable def p23e : POrc Try.prog := (f23 OsS).pureIf dIE (fun a => [Br.av' 5 a.1, .fn (.func 24) [] [.eptr [.str a.2]]]) dIE_enc (fun a => okL a.1) (fun a => .int .i64 (idxI (idxFrom (eqTo a.2) a.1.list 0))) (fun a _ => ⟨rfl, fun _ _ => trivial⟩) eq_spec
theorem p23e_nat : p23e.Nat := pureIf_nat
end Go.Proofs.Ytnmglmkkeghnaaa.V

/- The functions' pieces, as told by gen.py. -/
set_option linter.unusedVariables false
set_option maxRecDepth 20000
namespace Go.Proofs.Ytnmglmkkeghnaaa.V
open Go Go.V Go.RowKit


/-! ### 28: slices.ContainsFunc[[]interlock/api.Cond,interlock/api.Cond] (31, 53); results 4; slots: 0 s, 1 f, 2 s, 3 f -/
noncomputable def f28_b : Sim Try.prog :=
  (.seq (.live [0, 1] (.region 0 [
    ⟨(opAssign (some 4) (.const (Value.bool false)) 4 "slices.go:124" #[]).op, none⟩
  ] (by kernel_rfl)))
  (.seq (.live [4] (.region 1 [
    ⟨(opMove (some 5) (.tmp 0) 31 "slices.go:125" #[]).op, none⟩,
    ⟨(opMove (some 6) (.tmp 1) 53 "slices.go:125" #[]).op, none⟩,
    ⟨(opCallP p23s (some 7) [(.tmp 5), (.tmp 6)] #[31, 53] 3 "slices.go:125" #[{ on := 0, ground := Ground.data }, { on := 1, ground := Ground.data }]).op, none⟩,
    ⟨(opBin (some 8) .geq 3 (.tmp 7) (.const (Value.int IntKind.i64 0)) 3 4 "slices.go:125" #[{ on := 2, ground := Ground.data }]).op, none⟩,
    ⟨(opAssign (some 4) (.tmp 8) 4 "slices.go:125" #[{ on := 3, ground := Ground.data }, { on := 2, ground := Ground.chain }, { on := 0, ground := Ground.phase }, { on := 1, ground := Ground.phase }, { on := 2, ground := Ground.phase }, { on := 3, ground := Ground.phase }]).op, none⟩
  ] (by kernel_rfl)))
  (.live [4] .ret)))

noncomputable def f28 : Fun Try.prog where
  id := 28
  fn := Try.f28
  hf := Try.func28
  hname := by kernel_rfl
  body := f28_b
  hbody := by kernel_rfl
  res := [rTmp 4]
  hres := by kernel_rfl
  n := 9
  hn := by kernel_rfl

/-! ### 18: interlock/cond.some (31, 26, 28, 49); results 8; slots: 0 l, 1 cols, 2 r, 3 is, 4 l, 5 cols, 6 r, 7 is -/
noncomputable def f18_b : Sim Try.prog :=
  (.seq (.live [0, 5, 6, 7] (.region 0 [
    ⟨(opBoxF (some 5) 26 (.tmp 1) 0 "cond.go:92" #[]).op, none⟩,
    ⟨(opBoxF (some 6) 28 (.tmp 2) 0 "cond.go:92" #[]).op, none⟩,
    ⟨(opBoxF (some 7) 49 (.tmp 3) 0 "cond.go:92" #[]).op, none⟩,
    ⟨(opAssign (some 8) (.const (Value.bool false)) 4 "cond.go:92" #[]).op, none⟩
  ] (by kernel_rfl)))
  (.seq (.live [8] (.region 1 [
    ⟨(opMove (some 9) (.tmp 0) 31 "cond.go:93" #[]).op, none⟩,
    ⟨(opMakeFunc (some 10) (Fn.func 29) #[] #[(.tmp 7), (.tmp 5), (.tmp 6)] 53 "cond.go:93" #[]).op, none⟩,
    ⟨opCall (f28.orc 0) (some 11) [(.tmp 9), (.tmp 10)] #[31, 53] 4 "cond.go:93" #[{ on := 0, ground := Ground.data }, { on := 1, ground := Ground.data }], none⟩,
    ⟨(opAssign (some 8) (.tmp 11) 4 "cond.go:93" #[{ on := 2, ground := Ground.data }, { on := 2, ground := Ground.chain }, { on := 0, ground := Ground.phase }, { on := 1, ground := Ground.phase }, { on := 2, ground := Ground.phase }]).op, none⟩
  ] (by kernel_rfl)))
  (.live [8] .ret)))

noncomputable def f18 : Fun Try.prog where
  id := 18
  fn := Try.f18
  hf := Try.func18
  hname := by kernel_rfl
  body := f18_b
  hbody := by kernel_rfl
  res := [rTmp 8]
  hres := by kernel_rfl
  n := 12
  hn := by kernel_rfl

/-! ### 10: interlock/cond.Holds (31, 26, 28); results 6; slots: 0 l, 1 cols, 2 r, 3 l, 4 cols, 5 r -/
noncomputable def f10_b : Sim Try.prog :=
  (.seq (.live [0, 1, 2] (.region 0 [
    ⟨(opAssign (some 6) (.const (Value.bool false)) 4 "cond.go:97" #[]).op, none⟩
  ] (by kernel_rfl)))
  (.seq (.live [6] (.region 1 [
    ⟨(opMove (some 7) (.tmp 0) 31 "cond.go:98" #[]).op, none⟩,
    ⟨(opMove (some 8) (.tmp 1) 26 "cond.go:98" #[]).op, none⟩,
    ⟨(opMove (some 9) (.tmp 2) 28 "cond.go:98" #[]).op, none⟩,
    ⟨opCall (f18.orc 0) (some 10) [(.tmp 7), (.tmp 8), (.tmp 9), (.func 19)] #[31, 26, 28, 49] 4 "cond.go:98" #[{ on := 0, ground := Ground.data }, { on := 1, ground := Ground.data }, { on := 2, ground := Ground.data }], none⟩,
    ⟨(opNot (some 11) 4 (.tmp 10) 4 "cond.go:98" #[{ on := 3, ground := Ground.data }]).op, none⟩,
    ⟨(opAssign (some 6) (.tmp 11) 4 "cond.go:98" #[{ on := 4, ground := Ground.data }, { on := 3, ground := Ground.chain }, { on := 0, ground := Ground.phase }, { on := 1, ground := Ground.phase }, { on := 2, ground := Ground.phase }, { on := 3, ground := Ground.phase }, { on := 4, ground := Ground.phase }]).op, none⟩
  ] (by kernel_rfl)))
  (.live [6] .ret)))

noncomputable def f10 : Fun Try.prog where
  id := 10
  fn := Try.f10
  hf := Try.func10
  hname := by kernel_rfl
  body := f10_b
  hbody := by kernel_rfl
  res := [rTmp 6]
  hres := by kernel_rfl
  n := 12
  hn := by kernel_rfl

/-! ### 11: interlock/cond.Refuses (31, 26, 28); results 6; slots: 0 l, 1 cols, 2 r, 3 l, 4 cols, 5 r -/
noncomputable def f11_b : Sim Try.prog :=
  (.seq (.live [0, 1, 2] (.region 0 [
    ⟨(opAssign (some 6) (.const (Value.bool false)) 4 "cond.go:102" #[]).op, none⟩
  ] (by kernel_rfl)))
  (.seq (.live [6] (.region 1 [
    ⟨(opMove (some 7) (.tmp 0) 31 "cond.go:103" #[]).op, none⟩,
    ⟨(opMove (some 8) (.tmp 1) 26 "cond.go:103" #[]).op, none⟩,
    ⟨(opMove (some 9) (.tmp 2) 28 "cond.go:103" #[]).op, none⟩,
    ⟨opCall (f18.orc 0) (some 10) [(.tmp 7), (.tmp 8), (.tmp 9), (.func 20)] #[31, 26, 28, 49] 4 "cond.go:103" #[{ on := 0, ground := Ground.data }, { on := 1, ground := Ground.data }, { on := 2, ground := Ground.data }], none⟩,
    ⟨(opAssign (some 6) (.tmp 10) 4 "cond.go:103" #[{ on := 3, ground := Ground.data }, { on := 3, ground := Ground.chain }, { on := 0, ground := Ground.phase }, { on := 1, ground := Ground.phase }, { on := 2, ground := Ground.phase }, { on := 3, ground := Ground.phase }]).op, none⟩
  ] (by kernel_rfl)))
  (.live [6] .ret)))

noncomputable def f11 : Fun Try.prog where
  id := 11
  fn := Try.f11
  hf := Try.func11
  hname := by kernel_rfl
  body := f11_b
  hbody := by kernel_rfl
  res := [rTmp 6]
  hres := by kernel_rfl
  n := 11
  hn := by kernel_rfl

end Go.Proofs.Ytnmglmkkeghnaaa.V

/- What the functions' runs come to; the right sides were printed by a tool, Lean checks them. -/
set_option linter.unusedVariables false
set_option maxRecDepth 100000
namespace Go.Proofs.Ytnmglmkkeghnaaa.V
open Go Go.V Go.RowKit

theorem holds_run (z x y : AV) (st : St) :
    (f10.run 0 [z, x, y] st : Ans) =
    onSome (cellsA x) none fun (o : List AV) =>
      onSome (cellsA y) none fun (o_1 : List AV) =>
        onSome (dIS [z, AV.fn (Fn.func 29) [] [AV.eptr [AV.fn (Fn.func 19) [] []], AV.eptr o, AV.eptr o_1]]) none
          fun (o : Br × Qu) =>
          branch (AV.bool (okL o.fst && (okW o.snd.fst && quOk o.snd)))
            (some
              (Fin.ret (AV.bool !decide (idxI (idxFrom (fun (r : List AV) => quF o.snd (cdAt r)) o.fst.list 0) ≥ 0)), st))
            none := by kernel_rfl

theorem refuses_run (z x y : AV) (st : St) :
    (f11.run 0 [z, x, y] st : Ans) =
    onSome (cellsA x) none fun (o : List AV) =>
      onSome (cellsA y) none fun (o_1 : List AV) =>
        onSome (dIS [z, AV.fn (Fn.func 29) [] [AV.eptr [AV.fn (Fn.func 20) [] []], AV.eptr o, AV.eptr o_1]]) none
          fun (o : Br × Qu) =>
          branch (AV.bool (okL o.fst && (okW o.snd.fst && quOk o.snd)))
            (some
              (Fin.ret (AV.bool (decide (idxI (idxFrom (fun (r : List AV) => quF o.snd (cdAt r)) o.fst.list 0) ≥ 0))), st))
            none := by kernel_rfl

end Go.Proofs.Ytnmglmkkeghnaaa.V

/- Cond: Holds and Refuses, as callees. -/
set_option linter.unusedVariables false
namespace Go.Proofs.Ytnmglmkkeghnaaa.V
open Go Go.V Go.RowKit

theorem idxI_test (o : Option Nat) : decide (idxI o ≥ 0) = o.isSome := Bool.eq_iff_iff.mpr (Iff.trans decide_eq_true_iff (idxI_ge o))
def holdsF (l cols r : List (List AV)) : Bool := !(l.any fun c => isW 19 (truF (cdAt c) cols r))
def refusesF (l cols r : List (List AV)) : Bool := l.any fun c => isW 20 (truF (cdAt c) cols r)
abbrev Tri := Br × Br × Br
def triA (a : Tri) : List AV := [Br.av' 5 a.1, Br.av' 3 a.2.1, Br.av' 3 a.2.2]
def dTri : List AV → Option Tri
  | [z, x, y] => match brN 5 z, brN 3 x, brN 3 y with
    | some a, some b, some c => some (a, b, c)
    | _, _, _ => none
  | _ => none
theorem dTri_enc (l : List AV) (a : Tri) (h : dTri l = some a) : l = triA a := by
  unfold dTri at h
  split at h
  · split at h
    · rename_i h1 h2 h3
      cases h
      rw [brN_eq h1, brN_eq h2, brN_eq h3]; rfl
    · cases h
  · cases h
def triOk (a : Tri) : Bool := okL a.1 && (okC a.2.1 && okV a.2.2)
theorem cellsA_br (sz : Nat) (b : Br) : cellsA (Br.av' sz b) = some [Br.av' sz b] := by cases b <;> rfl
theorem dIS_of (a : Tri) (w : Nat) (hw : okW w = true) : dIS [Br.av' 5 a.1, .fn (.func 29) [] [.eptr [.fn (.func w) [] []], .eptr [Br.av' 3 a.2.1], .eptr [Br.av' 3 a.2.2]]] = some (a.1, w, a.2.1, a.2.2) := by
  show (match brN 5 (Br.av' 5 a.1), dQu (quA (w, a.2.1, a.2.2)) with
    | some b, some q => some (b, q)
    | _, _ => none) = _
  rw [brN_av, dQu_of (q := (w, a.2.1, a.2.2)) hw]
noncomputable def p10 : POrc Try.prog := (f10.pureIf dTri triA dTri_enc triOk (fun a => .bool (holdsF a.1.list a.2.1.list a.2.2.list)) (fun a _ => ⟨rfl, fun _ _ => trivial⟩) fun a h => ⟨0, fun st => by
  rw [triA, holds_run, cellsA_br, cellsA_br]
  simp only [onSome]
  rw [dIS_of a 19 rfl]
  simp only
  rw [branch_of (show (okL a.1 && (okW 19 && quOk (19, a.2.1, a.2.2))) = true from h)]
  have := idxI_test (idxFrom (fun r => quF (19, a.2.1, a.2.2) (cdAt r)) a.1.list 0)
  rw [idxFrom_isSome] at this
  exact congrArg (fun b => some (Fin.ret (AV.bool (!b)), st)) this⟩).fz
noncomputable def p11 : POrc Try.prog := (f11.pureIf dTri triA dTri_enc triOk (fun a => .bool (refusesF a.1.list a.2.1.list a.2.2.list)) (fun a _ => ⟨rfl, fun _ _ => trivial⟩) fun a h => ⟨0, fun st => by
  rw [triA, refuses_run, cellsA_br, cellsA_br]
  simp only [onSome]
  rw [dIS_of a 20 rfl]
  simp only
  rw [branch_of (show (okL a.1 && (okW 20 && quOk (20, a.2.1, a.2.2))) = true from h)]
  have := idxI_test (idxFrom (fun r => quF (20, a.2.1, a.2.2) (cdAt r)) a.1.list 0)
  rw [idxFrom_isSome] at this
  exact congrArg (fun b => some (Fin.ret (AV.bool b), st)) this⟩).fz
theorem p10_nat : p10.Nat := POrc.fz_nat pureIf_nat
theorem p11_nat : p11.Nat := POrc.fz_nat pureIf_nat
end Go.Proofs.Ytnmglmkkeghnaaa.V

/- The functions' pieces, as told by gen.py. -/
set_option linter.unusedVariables false
set_option maxRecDepth 20000
namespace Go.Proofs.Ytnmglmkkeghnaaa.V
open Go Go.V Go.RowKit

theorem fl42_1 : fieldB Try.prog 42 1 1 1 false = true := by kernel_rfl
theorem ze25 : (Try.prog.info? 25).bind (·.zero) = some (.agg #[(.string ⟨#[]⟩), (.int .i64 0), (.int .i64 0), (.int .i64 0), (.string ⟨#[]⟩)]) := by kernel_rfl
theorem ze42 : (Try.prog.info? 42).bind (·.zero) = some (.agg #[(.string ⟨#[]⟩), (.int .i64 0), (.bool false)]) := by kernel_rfl
theorem by42 : (Try.prog.info? 42).map (·.bytes) = some 32 := by kernel_rfl
theorem el26 : ElemOf Try.prog 26 42 3 32 (.agg #[(.string ⟨#[]⟩), (.int .i64 0), (.bool false)]) := ⟨Try.underlying26, sz42, by42, ze42, by kernel_rfl, by decide⟩
theorem by23 : (Try.prog.info? 23).map (·.bytes) = some 32 := by kernel_rfl
theorem el28 : ElemOf Try.prog 28 23 3 32 (.agg #[(.int .i64 0), (.int .i64 0), (.string ⟨#[]⟩)]) := ⟨Try.underlying28, sz23, by23, ze23, by kernel_rfl, by decide⟩
theorem by25 : (Try.prog.info? 25).map (·.bytes) = some 56 := by kernel_rfl
theorem el31 : ElemOf Try.prog 31 25 5 56 (.agg #[(.string ⟨#[]⟩), (.int .i64 0), (.int .i64 0), (.int .i64 0), (.string ⟨#[]⟩)]) := ⟨Try.underlying31, sz25, by25, ze25, by kernel_rfl, by decide⟩

/-! ### 8: interlock/interlocklaw12.Great (31, 26, 28); results 6; slots: 0 l, 1 cols, 2 r, 3 l, 4 cols, 5 r, 7 i, 8 i, 9 i -/
/-- A loop's round; at its head live: 0 l, 1 cols, 2 r, 7 i -/
noncomputable def f8_l0 : Sim Try.prog :=
  (.seq (.seq (.live [0, 1, 2, 7, 26] (.region 4 [
    ⟨(opMove (some 23) (.tmp 7) 3 "law.go:23" #[]).op, none⟩,
    ⟨(opMove (some 24) (.tmp 0) 31 "law.go:23" #[]).op, none⟩,
    ⟨(opLen (some 25) (.tmp 24) 31 (.slice 25) Try.underlying31 3 "law.go:23" #[{ on := 1, ground := Ground.data }]).op, none⟩,
    ⟨(opBin (some 26) .lss 3 (.tmp 23) (.tmp 25) 3 4 "law.go:23" #[{ on := 0, ground := Ground.data }, { on := 2, ground := Ground.data }]).op, none⟩
  ] (by kernel_rfl)))
  (.cond (.tmp 26)
    .skip
    (.live [1, 2] (.exit 0))))
  (.seq (.block 1 (.seq (.live [0, 1, 2, 7, 45] (.region 6 [
      ⟨(opMove (some 29) (.tmp 0) 31 "law.go:24" #[]).op, none⟩,
      ⟨(opMove (some 30) (.tmp 7) 3 "law.go:24" #[]).op, none⟩,
      ⟨(opIndexAddrT (some 31) 31 (.tmp 29) (.tmp 30) 25 5 Try.underlying31 sz25 0 "law.go:24" #[{ on := 0, ground := Ground.data }, { on := 1, ground := Ground.data }]).op, none⟩,
      ⟨(opFieldAddr (some 32) 25 (.tmp 31) 2 2 3 true fl25_2 (by decide) 0 "law.go:24" #[{ on := 2, ground := Ground.data }]).op, none⟩,
      ⟨(opFieldAddr (some 33) 23 (.tmp 32) 2 2 1 false fl23_2 (by decide) 0 "law.go:24" #[{ on := 3, ground := Ground.data }]).op, none⟩,
      ⟨(opLoadT (.one .str) (some 34) 9 (.tmp 33) .string Try.underlying9 1 sz9 (by kernel_rfl) 9 "law.go:24" #[{ on := 4, ground := Ground.data }]).op, none⟩,
      ⟨(opLen (some 35) (.tmp 34) 9 .string Try.underlying9 3 "law.go:24" #[{ on := 5, ground := Ground.data }]).op, none⟩,
      ⟨(opBin (some 36) .gtr 3 (.tmp 35) (.const (Value.int IntKind.i64 500)) 3 4 "law.go:24" #[{ on := 6, ground := Ground.data }]).op, none⟩,
      ⟨(opMove (some 37) (.tmp 36) 4 "law.go:24" #[{ on := 7, ground := Ground.data }]).op, none⟩,
      ⟨(opMove (some 38) (.tmp 0) 31 "law.go:24" #[{ on := 8, ground := Ground.guard }]).op, (some (8, 37, false))⟩,
      ⟨(opMove (some 39) (.tmp 7) 3 "law.go:24" #[{ on := 8, ground := Ground.guard }]).op, (some (8, 37, false))⟩,
      ⟨(opIndexAddrT (some 40) 31 (.tmp 38) (.tmp 39) 25 5 Try.underlying31 sz25 0 "law.go:24" #[{ on := 9, ground := Ground.data }, { on := 10, ground := Ground.data }, { on := 8, ground := Ground.guard }]).op, (some (8, 37, false))⟩,
      ⟨(opFieldAddr (some 41) 25 (.tmp 40) 0 0 1 false fl25_0 (by decide) 0 "law.go:24" #[{ on := 11, ground := Ground.data }, { on := 8, ground := Ground.guard }]).op, (some (8, 37, false))⟩,
      ⟨(opLoadT (.one .str) (some 42) 9 (.tmp 41) .string Try.underlying9 1 sz9 (by kernel_rfl) 9 "law.go:24" #[{ on := 12, ground := Ground.data }, { on := 8, ground := Ground.guard }]).op, (some (8, 37, false))⟩,
      ⟨(opLen (some 43) (.tmp 42) 9 .string Try.underlying9 3 "law.go:24" #[{ on := 13, ground := Ground.data }, { on := 8, ground := Ground.guard }]).op, (some (8, 37, false))⟩,
      ⟨(opBin (some 44) .gtr 3 (.tmp 43) (.const (Value.int IntKind.i64 500)) 3 4 "law.go:24" #[{ on := 14, ground := Ground.data }, { on := 8, ground := Ground.guard }]).op, (some (8, 37, false))⟩,
      ⟨(opPick (some 45) (.tmp 37) (.const (Value.bool true)) (.tmp 44) 4 "law.go:24" #[{ on := 8, ground := Ground.data }, { on := 15, ground := Ground.data }]).op, none⟩
    ] (by kernel_rfl)))
    (.cond (.tmp 45)
      (.seq (.live [6] (.region 7 [
        ⟨(opAssign (some 6) (.const (Value.bool true)) 4 "law.go:25" #[]).op, none⟩
      ] (by kernel_rfl)))
      (.live [6] .ret))
      .skip)))
  (.live [0, 1, 2, 7] (.region 5 [
    ⟨(opMove (some 27) (.tmp 7) 3 "law.go:23" #[]).op, none⟩,
    ⟨(opBin (some 28) .add 3 (.tmp 27) (.const (Value.int IntKind.i64 1)) 3 3 "law.go:23" #[{ on := 0, ground := Ground.data }]).op, none⟩,
    ⟨(opAssign (some 7) (.tmp 28) 3 "law.go:23" #[{ on := 1, ground := Ground.data }, { on := 0, ground := Ground.phase }, { on := 1, ground := Ground.phase }]).op, none⟩
  ] (by kernel_rfl)))))

/-- A loop's round; at its head live: 1 cols, 2 r, 8 i -/
noncomputable def f8_l1 : Sim Try.prog :=
  (.seq (.seq (.live [1, 2, 8, 49] (.region 9 [
    ⟨(opMove (some 46) (.tmp 8) 3 "law.go:28" #[]).op, none⟩,
    ⟨(opMove (some 47) (.tmp 1) 26 "law.go:28" #[]).op, none⟩,
    ⟨(opLen (some 48) (.tmp 47) 26 (.slice 42) Try.underlying26 3 "law.go:28" #[{ on := 1, ground := Ground.data }]).op, none⟩,
    ⟨(opBin (some 49) .lss 3 (.tmp 46) (.tmp 48) 3 4 "law.go:28" #[{ on := 0, ground := Ground.data }, { on := 2, ground := Ground.data }]).op, none⟩
  ] (by kernel_rfl)))
  (.cond (.tmp 49)
    .skip
    (.live [2] (.exit 2))))
  (.seq (.block 3 (.seq (.live [1, 2, 8, 58] (.region 11 [
      ⟨(opMove (some 52) (.tmp 1) 26 "law.go:29" #[]).op, none⟩,
      ⟨(opMove (some 53) (.tmp 8) 3 "law.go:29" #[]).op, none⟩,
      ⟨(opIndexAddrT (some 54) 26 (.tmp 52) (.tmp 53) 42 3 Try.underlying26 sz42 0 "law.go:29" #[{ on := 0, ground := Ground.data }, { on := 1, ground := Ground.data }]).op, none⟩,
      ⟨(opFieldAddr (some 55) 42 (.tmp 54) 0 0 1 false fl42_0 (by decide) 0 "law.go:29" #[{ on := 2, ground := Ground.data }]).op, none⟩,
      ⟨(opLoadT (.one .str) (some 56) 9 (.tmp 55) .string Try.underlying9 1 sz9 (by kernel_rfl) 9 "law.go:29" #[{ on := 3, ground := Ground.data }]).op, none⟩,
      ⟨(opLen (some 57) (.tmp 56) 9 .string Try.underlying9 3 "law.go:29" #[{ on := 4, ground := Ground.data }]).op, none⟩,
      ⟨(opBin (some 58) .gtr 3 (.tmp 57) (.const (Value.int IntKind.i64 500)) 3 4 "law.go:29" #[{ on := 5, ground := Ground.data }]).op, none⟩
    ] (by kernel_rfl)))
    (.cond (.tmp 58)
      (.seq (.live [6] (.region 12 [
        ⟨(opAssign (some 6) (.const (Value.bool true)) 4 "law.go:30" #[]).op, none⟩
      ] (by kernel_rfl)))
      (.live [6] .ret))
      .skip)))
  (.live [1, 2, 8] (.region 10 [
    ⟨(opMove (some 50) (.tmp 8) 3 "law.go:28" #[]).op, none⟩,
    ⟨(opBin (some 51) .add 3 (.tmp 50) (.const (Value.int IntKind.i64 1)) 3 3 "law.go:28" #[{ on := 0, ground := Ground.data }]).op, none⟩,
    ⟨(opAssign (some 8) (.tmp 51) 3 "law.go:28" #[{ on := 1, ground := Ground.data }, { on := 0, ground := Ground.phase }, { on := 1, ground := Ground.phase }]).op, none⟩
  ] (by kernel_rfl)))))

/-- A loop's round; at its head live: 2 r, 9 i -/
noncomputable def f8_l2 : Sim Try.prog :=
  (.seq (.seq (.live [2, 9, 62] (.region 14 [
    ⟨(opMove (some 59) (.tmp 9) 3 "law.go:33" #[]).op, none⟩,
    ⟨(opMove (some 60) (.tmp 2) 28 "law.go:33" #[]).op, none⟩,
    ⟨(opLen (some 61) (.tmp 60) 28 (.slice 23) Try.underlying28 3 "law.go:33" #[{ on := 1, ground := Ground.data }]).op, none⟩,
    ⟨(opBin (some 62) .lss 3 (.tmp 59) (.tmp 61) 3 4 "law.go:33" #[{ on := 0, ground := Ground.data }, { on := 2, ground := Ground.data }]).op, none⟩
  ] (by kernel_rfl)))
  (.cond (.tmp 62)
    .skip
    (.live [] (.exit 4))))
  (.seq (.block 5 (.seq (.live [2, 9, 71] (.region 16 [
      ⟨(opMove (some 65) (.tmp 2) 28 "law.go:34" #[]).op, none⟩,
      ⟨(opMove (some 66) (.tmp 9) 3 "law.go:34" #[]).op, none⟩,
      ⟨(opIndexAddrT (some 67) 28 (.tmp 65) (.tmp 66) 23 3 Try.underlying28 sz23 0 "law.go:34" #[{ on := 0, ground := Ground.data }, { on := 1, ground := Ground.data }]).op, none⟩,
      ⟨(opFieldAddr (some 68) 23 (.tmp 67) 2 2 1 false fl23_2 (by decide) 0 "law.go:34" #[{ on := 2, ground := Ground.data }]).op, none⟩,
      ⟨(opLoadT (.one .str) (some 69) 9 (.tmp 68) .string Try.underlying9 1 sz9 (by kernel_rfl) 9 "law.go:34" #[{ on := 3, ground := Ground.data }]).op, none⟩,
      ⟨(opLen (some 70) (.tmp 69) 9 .string Try.underlying9 3 "law.go:34" #[{ on := 4, ground := Ground.data }]).op, none⟩,
      ⟨(opBin (some 71) .gtr 3 (.tmp 70) (.const (Value.int IntKind.i64 500)) 3 4 "law.go:34" #[{ on := 5, ground := Ground.data }]).op, none⟩
    ] (by kernel_rfl)))
    (.cond (.tmp 71)
      (.seq (.live [6] (.region 17 [
        ⟨(opAssign (some 6) (.const (Value.bool true)) 4 "law.go:35" #[]).op, none⟩
      ] (by kernel_rfl)))
      (.live [6] .ret))
      .skip)))
  (.live [2, 9] (.region 15 [
    ⟨(opMove (some 63) (.tmp 9) 3 "law.go:33" #[]).op, none⟩,
    ⟨(opBin (some 64) .add 3 (.tmp 63) (.const (Value.int IntKind.i64 1)) 3 3 "law.go:33" #[{ on := 0, ground := Ground.data }]).op, none⟩,
    ⟨(opAssign (some 9) (.tmp 64) 3 "law.go:33" #[{ on := 1, ground := Ground.data }, { on := 0, ground := Ground.phase }, { on := 1, ground := Ground.phase }]).op, none⟩
  ] (by kernel_rfl)))))

/-- What follows a loop. -/
noncomputable def f8_r0 : Sim Try.prog :=
  (.seq (.live [6] (.region 18 [
    ⟨(opAssign (some 6) (.const (Value.bool false)) 4 "law.go:38" #[]).op, none⟩
  ] (by kernel_rfl)))
  (.live [6] .ret))

/-- What follows a loop. -/
noncomputable def f8_r1 : Sim Try.prog :=
  (.seq (.seq (.live [2, 9] (.region 13 [
    ⟨(opAssign (some 9) (.const (Value.int IntKind.i64 0)) 3 "law.go:33" #[]).op, none⟩
  ] (by kernel_rfl)))
  (.block 4 (.loop [2, 9] f8_l2)))
  f8_r0)

/-- What follows a loop. -/
noncomputable def f8_r2 : Sim Try.prog :=
  (.seq (.seq (.live [1, 2, 8] (.region 8 [
    ⟨(opAssign (some 8) (.const (Value.int IntKind.i64 0)) 3 "law.go:28" #[]).op, none⟩
  ] (by kernel_rfl)))
  (.block 2 (.loop [1, 2, 8] f8_l1)))
  f8_r1)

noncomputable def f8_b : Sim Try.prog :=
  (.seq (.live [0, 1, 2] (.region 0 [
    ⟨(opAssign (some 6) (.const (Value.bool false)) 4 "law.go:19" #[]).op, none⟩
  ] (by kernel_rfl)))
  (.seq (.seq (.live [0, 1, 2, 22] (.region 1 [
    ⟨(opMove (some 10) (.tmp 0) 31 "law.go:20" #[]).op, none⟩,
    ⟨(opLen (some 11) (.tmp 10) 31 (.slice 25) Try.underlying31 3 "law.go:20" #[{ on := 0, ground := Ground.data }]).op, none⟩,
    ⟨(opBin (some 12) .gtr 3 (.tmp 11) (.const (Value.int IntKind.i64 100)) 3 4 "law.go:20" #[{ on := 1, ground := Ground.data }]).op, none⟩,
    ⟨(opMove (some 13) (.tmp 12) 4 "law.go:20" #[{ on := 2, ground := Ground.data }]).op, none⟩,
    ⟨(opMove (some 14) (.tmp 1) 26 "law.go:20" #[{ on := 3, ground := Ground.guard }]).op, (some (3, 13, false))⟩,
    ⟨(opLen (some 15) (.tmp 14) 26 (.slice 42) Try.underlying26 3 "law.go:20" #[{ on := 4, ground := Ground.data }, { on := 3, ground := Ground.guard }]).op, (some (3, 13, false))⟩,
    ⟨(opBin (some 16) .gtr 3 (.tmp 15) (.const (Value.int IntKind.i64 100)) 3 4 "law.go:20" #[{ on := 5, ground := Ground.data }, { on := 3, ground := Ground.guard }]).op, (some (3, 13, false))⟩,
    ⟨(opPick (some 17) (.tmp 13) (.const (Value.bool true)) (.tmp 16) 4 "law.go:20" #[{ on := 3, ground := Ground.data }, { on := 6, ground := Ground.data }]).op, none⟩,
    ⟨(opMove (some 18) (.tmp 17) 4 "law.go:20" #[{ on := 7, ground := Ground.data }, { on := 3, ground := Ground.chain }]).op, none⟩,
    ⟨(opMove (some 19) (.tmp 2) 28 "law.go:20" #[{ on := 8, ground := Ground.guard }]).op, (some (8, 18, false))⟩,
    ⟨(opLen (some 20) (.tmp 19) 28 (.slice 23) Try.underlying28 3 "law.go:20" #[{ on := 9, ground := Ground.data }, { on := 8, ground := Ground.guard }]).op, (some (8, 18, false))⟩,
    ⟨(opBin (some 21) .gtr 3 (.tmp 20) (.const (Value.int IntKind.i64 100)) 3 4 "law.go:20" #[{ on := 10, ground := Ground.data }, { on := 8, ground := Ground.guard }]).op, (some (8, 18, false))⟩,
    ⟨(opPick (some 22) (.tmp 18) (.const (Value.bool true)) (.tmp 21) 4 "law.go:20" #[{ on := 8, ground := Ground.data }, { on := 11, ground := Ground.data }]).op, none⟩
  ] (by kernel_rfl)))
  (.cond (.tmp 22)
    (.seq (.live [6] (.region 2 [
      ⟨(opAssign (some 6) (.const (Value.bool true)) 4 "law.go:21" #[]).op, none⟩
    ] (by kernel_rfl)))
    (.live [6] .ret))
    .skip))
  (.seq (.seq (.live [0, 1, 2, 7] (.region 3 [
    ⟨(opAssign (some 7) (.const (Value.int IntKind.i64 0)) 3 "law.go:23" #[]).op, none⟩
  ] (by kernel_rfl)))
  (.block 0 (.loop [0, 1, 2, 7] f8_l0)))
  f8_r2)))

noncomputable def f8 : Fun Try.prog where
  id := 8
  fn := Try.f8
  hf := Try.func8
  hname := by kernel_rfl
  body := f8_b
  hbody := by kernel_rfl
  res := [rTmp 6]
  hres := by kernel_rfl
  n := 72
  hn := by kernel_rfl

/-! ### 25: interlock/cond.right (25, 26); results 4; slots: 0 c, 1 cols, 2 c, 3 cols, 5 k, 6 ok, 7 null, 8 bare -/
noncomputable def f25_b : Sim Try.prog :=
  (.seq (.live [1, 2] (.region 0 [
    ⟨(opBoxF (some 2) 25 (.tmp 0) 0 "cond.go:25" #[]).op, none⟩,
    ⟨(opAssign (some 4) (.const (Value.int IntKind.i64 0)) 44 "cond.go:25" #[]).op, none⟩
  ] (by kernel_rfl)))
  (.seq (.live [1, 2, 5, 6] (.region 1 [
    ⟨(opMove (some 10) (.tmp 1) 26 "cond.go:26" #[]).op, none⟩,
    ⟨(opFieldAddr (some 11) 25 (.tmp 2) 0 0 1 false fl25_0 (by decide) 0 "cond.go:26" #[]).op, none⟩,
    ⟨(opLoadT (.one .str) (some 12) 9 (.tmp 11) .string Try.underlying9 1 sz9 (by kernel_rfl) 9 "cond.go:26" #[{ on := 1, ground := Ground.data }]).op, none⟩,
    ⟨(opCallP p13 (some 13) [(.tmp 10), (.tmp 12)] #[26, 9] 36 "cond.go:26" #[{ on := 0, ground := Ground.data }, { on := 2, ground := Ground.data }]).op, none⟩,
    ⟨(opMove (some 9) (.tmp 13) 36 "cond.go:26" #[{ on := 3, ground := Ground.data }]).op, none⟩,
    ⟨(opExtract (some 14) (.tmp 9) 0 3 "cond.go:26" #[{ on := 4, ground := Ground.data }]).op, none⟩,
    ⟨(opExtract (some 15) (.tmp 9) 1 4 "cond.go:26" #[{ on := 4, ground := Ground.data }, { on := 7, ground := (Ground.gcOnly Departure.lateStores) }]).op, none⟩,
    ⟨(opAssign (some 5) (.tmp 14) 3 "cond.go:26" #[{ on := 5, ground := Ground.data }, { on := 3, ground := Ground.chain }, { on := 0, ground := Ground.phase }, { on := 1, ground := Ground.phase }, { on := 2, ground := Ground.phase }, { on := 3, ground := Ground.phase }, { on := 4, ground := Ground.phase }, { on := 5, ground := Ground.phase }, { on := 6, ground := (Ground.textOnly Departure.lateStores) }]).op, none⟩,
    ⟨(opAssign (some 6) (.tmp 15) 4 "cond.go:26" #[{ on := 6, ground := Ground.data }, { on := 7, ground := Ground.chain }, { on := 0, ground := Ground.phase }, { on := 1, ground := Ground.phase }, { on := 2, ground := Ground.phase }, { on := 3, ground := Ground.phase }, { on := 4, ground := Ground.phase }, { on := 5, ground := Ground.phase }, { on := 6, ground := Ground.phase }, { on := 7, ground := Ground.phase }]).op, none⟩
  ] (by kernel_rfl)))
  (.seq (.live [1, 2, 5, 6, 7] (.region 2 [
    ⟨(opFieldAddr (some 16) 25 (.tmp 2) 2 2 3 true fl25_2 (by decide) 0 "cond.go:27" #[]).op, none⟩,
    ⟨(opFieldAddr (some 17) 23 (.tmp 16) 0 0 1 false fl23_0 (by decide) 0 "cond.go:27" #[{ on := 0, ground := Ground.data }]).op, none⟩,
    ⟨(opLoadT (.one (.int .i64)) (some 18) 3 (.tmp 17) (.int .i64) Try.underlying3 1 sz3 (by kernel_rfl) 3 "cond.go:27" #[{ on := 1, ground := Ground.data }]).op, none⟩,
    ⟨(opBin (some 19) .eql 3 (.tmp 18) (.const (Value.int IntKind.i64 0)) 3 4 "cond.go:27" #[{ on := 2, ground := Ground.data }]).op, none⟩,
    ⟨(opAssign (some 7) (.tmp 19) 4 "cond.go:27" #[{ on := 3, ground := Ground.data }, { on := 0, ground := Ground.phase }, { on := 1, ground := Ground.phase }, { on := 2, ground := Ground.phase }, { on := 3, ground := Ground.phase }]).op, none⟩
  ] (by kernel_rfl)))
  (.seq (.live [1, 2, 5, 6, 7, 8] (.region 3 [
    ⟨(opFieldAddr (some 20) 25 (.tmp 2) 1 1 1 false fl25_1 (by decide) 0 "cond.go:28" #[]).op, none⟩,
    ⟨(opLoadT (.one (.int .i64)) (some 21) 3 (.tmp 20) (.int .i64) Try.underlying3 1 sz3 (by kernel_rfl) 3 "cond.go:28" #[{ on := 0, ground := Ground.data }]).op, none⟩,
    ⟨(opBin (some 22) .eql 3 (.tmp 21) (.const (Value.int IntKind.i64 5)) 3 4 "cond.go:28" #[{ on := 1, ground := Ground.data }]).op, none⟩,
    ⟨(opMove (some 23) (.tmp 22) 4 "cond.go:28" #[{ on := 2, ground := Ground.data }]).op, none⟩,
    ⟨(opFieldAddr (some 24) 25 (.tmp 2) 1 1 1 false fl25_1 (by decide) 0 "cond.go:28" #[{ on := 3, ground := Ground.guard }]).op, (some (3, 23, false))⟩,
    ⟨(opLoadT (.one (.int .i64)) (some 25) 3 (.tmp 24) (.int .i64) Try.underlying3 1 sz3 (by kernel_rfl) 3 "cond.go:28" #[{ on := 4, ground := Ground.data }, { on := 3, ground := Ground.guard }]).op, (some (3, 23, false))⟩,
    ⟨(opBin (some 26) .eql 3 (.tmp 25) (.const (Value.int IntKind.i64 6)) 3 4 "cond.go:28" #[{ on := 5, ground := Ground.data }, { on := 3, ground := Ground.guard }]).op, (some (3, 23, false))⟩,
    ⟨(opPick (some 27) (.tmp 23) (.const (Value.bool true)) (.tmp 26) 4 "cond.go:28" #[{ on := 3, ground := Ground.data }, { on := 6, ground := Ground.data }]).op, none⟩,
    ⟨(opAssign (some 8) (.tmp 27) 4 "cond.go:28" #[{ on := 7, ground := Ground.data }, { on := 3, ground := Ground.chain }, { on := 0, ground := Ground.phase }, { on := 1, ground := Ground.phase }, { on := 2, ground := Ground.phase }, { on := 3, ground := Ground.phase }, { on := 4, ground := Ground.phase }, { on := 5, ground := Ground.phase }, { on := 6, ground := Ground.phase }, { on := 7, ground := Ground.phase }]).op, none⟩
  ] (by kernel_rfl)))
  (.seq (.block 0 (.seq (.live [1, 2, 5, 7, 8, 28] (.region 4 [
      ⟨(opMove (some 29) (.tmp 6) 4 "cond.go:30" #[]).op, none⟩,
      ⟨(opNot (some 30) 4 (.tmp 29) 4 "cond.go:30" #[{ on := 0, ground := Ground.data }]).op, none⟩,
      ⟨(opAssign (some 28) (.tmp 30) 4 "cond.go:30" #[{ on := 1, ground := Ground.data }]).op, none⟩
    ] (by kernel_rfl)))
    (.cond (.tmp 28)
      (.seq (.live [4] (.region 5 [
        ⟨(opAssign (some 4) (.const (Value.int IntKind.i64 13)) 44 "cond.go:31" #[]).op, none⟩
      ] (by kernel_rfl)))
      (.live [4] .ret))
      (.seq (.live [1, 2, 5, 7, 31] (.region 6 [
        ⟨(opFieldAddr (some 32) 25 (.tmp 2) 1 1 1 false fl25_1 (by decide) 0 "cond.go:32" #[]).op, none⟩,
        ⟨(opLoadT (.one (.int .i64)) (some 33) 3 (.tmp 32) (.int .i64) Try.underlying3 1 sz3 (by kernel_rfl) 3 "cond.go:32" #[{ on := 0, ground := Ground.data }]).op, none⟩,
        ⟨(opBin (some 34) .lss 3 (.tmp 33) (.const (Value.int IntKind.i64 1)) 3 4 "cond.go:32" #[{ on := 1, ground := Ground.data }]).op, none⟩,
        ⟨(opMove (some 35) (.tmp 34) 4 "cond.go:32" #[{ on := 2, ground := Ground.data }]).op, none⟩,
        ⟨(opFieldAddr (some 36) 25 (.tmp 2) 1 1 1 false fl25_1 (by decide) 0 "cond.go:32" #[{ on := 3, ground := Ground.guard }]).op, (some (3, 35, false))⟩,
        ⟨(opLoadT (.one (.int .i64)) (some 37) 3 (.tmp 36) (.int .i64) Try.underlying3 1 sz3 (by kernel_rfl) 3 "cond.go:32" #[{ on := 4, ground := Ground.data }, { on := 3, ground := Ground.guard }]).op, (some (3, 35, false))⟩,
        ⟨(opBin (some 38) .gtr 3 (.tmp 37) (.const (Value.int IntKind.i64 6)) 3 4 "cond.go:32" #[{ on := 5, ground := Ground.data }, { on := 3, ground := Ground.guard }]).op, (some (3, 35, false))⟩,
        ⟨(opPick (some 39) (.tmp 35) (.const (Value.bool true)) (.tmp 38) 4 "cond.go:32" #[{ on := 3, ground := Ground.data }, { on := 6, ground := Ground.data }]).op, none⟩,
        ⟨(opMove (some 40) (.tmp 39) 4 "cond.go:32" #[{ on := 7, ground := Ground.data }, { on := 3, ground := Ground.chain }]).op, none⟩,
        ⟨(opFieldAddr (some 41) 25 (.tmp 2) 2 2 3 true fl25_2 (by decide) 0 "cond.go:32" #[{ on := 8, ground := Ground.guard }]).op, (some (8, 40, false))⟩,
        ⟨(opLoadT (.agg [(.int .i64), (.int .i64), .str]) (some 42) 23 (.tmp 41) d23 ud23 3 sz23 (by kernel_rfl) 23 "cond.go:32" #[{ on := 9, ground := Ground.data }, { on := 8, ground := Ground.guard }]).op, (some (8, 40, false))⟩,
        ⟨(opCallP p26 (some 43) [(.tmp 42)] #[23] 4 "cond.go:32" #[{ on := 10, ground := Ground.data }, { on := 8, ground := Ground.chain }, { on := 8, ground := Ground.guard }]).op, (some (8, 40, false))⟩,
        ⟨(opNot (some 44) 4 (.tmp 43) 4 "cond.go:32" #[{ on := 11, ground := Ground.data }, { on := 8, ground := Ground.guard }]).op, (some (8, 40, false))⟩,
        ⟨(opPick (some 45) (.tmp 40) (.const (Value.bool true)) (.tmp 44) 4 "cond.go:32" #[{ on := 8, ground := Ground.data }, { on := 12, ground := Ground.data }]).op, none⟩,
        ⟨(opMove (some 46) (.tmp 45) 4 "cond.go:32" #[{ on := 13, ground := Ground.data }, { on := 11, ground := Ground.chain }]).op, none⟩,
        ⟨(opMove (some 47) (.tmp 7) 4 "cond.go:32" #[{ on := 14, ground := Ground.guard }]).op, (some (14, 46, false))⟩,
        ⟨(opMove (some 48) (.tmp 8) 4 "cond.go:32" #[{ on := 14, ground := Ground.guard }]).op, (some (14, 46, false))⟩,
        ⟨(opNe (some 49) 4 .bool Try.underlying4 (.tmp 47) (.tmp 48) (.inr rfl) 4 4 "cond.go:32" #[{ on := 15, ground := Ground.data }, { on := 16, ground := Ground.data }, { on := 14, ground := Ground.guard }]).op, (some (14, 46, false))⟩,
        ⟨(opPick (some 50) (.tmp 46) (.const (Value.bool true)) (.tmp 49) 4 "cond.go:32" #[{ on := 14, ground := Ground.data }, { on := 17, ground := Ground.data }]).op, none⟩,
        ⟨(opAssign (some 31) (.tmp 50) 4 "cond.go:32" #[{ on := 18, ground := Ground.data }, { on := 14, ground := Ground.chain }]).op, none⟩
      ] (by kernel_rfl)))
      (.cond (.tmp 31)
        (.seq (.live [4] (.region 7 [
          ⟨(opAssign (some 4) (.const (Value.int IntKind.i64 10)) 44 "cond.go:33" #[]).op, none⟩
        ] (by kernel_rfl)))
        (.live [4] .ret))
        (.seq (.live [51] (.draw 8 [
          ⟨.p (opMove (some 52) (.tmp 7) 4 "cond.go:34" #[]), none⟩,
          ⟨.p (opNot (some 53) 4 (.tmp 52) 4 "cond.go:34" #[{ on := 0, ground := Ground.data }]), none⟩,
          ⟨.p (opMove (some 54) (.tmp 53) 4 "cond.go:34" #[{ on := 1, ground := Ground.data }]), none⟩,
          ⟨.pn (opFieldAddr (some 55) 25 (.tmp 2) 2 2 3 true fl25_2 (by decide) 0 "cond.go:34" #[{ on := 2, ground := Ground.guard }]) opFieldAddr_nat, (some (2, 54, true))⟩,
          ⟨.pn (opFieldAddr (some 56) 23 (.tmp 55) 0 0 1 false fl23_0 (by decide) 0 "cond.go:34" #[{ on := 3, ground := Ground.data }, { on := 2, ground := Ground.guard }]) opFieldAddr_nat, (some (2, 54, true))⟩,
          ⟨.qn (opLoadT (.one (.int .i64)) (some 57) 3 (.tmp 56) (.int .i64) Try.underlying3 1 sz3 (by kernel_rfl) 3 "cond.go:34" #[{ on := 4, ground := Ground.data }, { on := 2, ground := Ground.guard }]) opLoadT_nat, (some (2, 54, true))⟩,
          ⟨.p (opMove (some 58) (.tmp 1) 26 "cond.go:34" #[{ on := 2, ground := Ground.guard }]), (some (2, 54, true))⟩,
          ⟨.p (opMove (some 59) (.tmp 5) 3 "cond.go:34" #[{ on := 2, ground := Ground.guard }]), (some (2, 54, true))⟩,
          ⟨.pn (opIndexAddrT (some 60) 26 (.tmp 58) (.tmp 59) 42 3 Try.underlying26 sz42 0 "cond.go:34" #[{ on := 6, ground := Ground.data }, { on := 7, ground := Ground.data }, { on := 2, ground := Ground.guard }]) opIndexAddrT_nat, (some (2, 54, true))⟩,
          ⟨.pn (opFieldAddr (some 61) 42 (.tmp 60) 1 1 1 false fl42_1 (by decide) 0 "cond.go:34" #[{ on := 8, ground := Ground.data }, { on := 2, ground := Ground.guard }]) opFieldAddr_nat, (some (2, 54, true))⟩,
          ⟨.qn (opLoadT (.one (.int .i64)) (some 62) 3 (.tmp 61) (.int .i64) Try.underlying3 1 sz3 (by kernel_rfl) 3 "cond.go:34" #[{ on := 9, ground := Ground.data }, { on := 2, ground := Ground.guard }]) opLoadT_nat, (some (2, 54, true))⟩,
          ⟨.pn (opBin (some 63) .neq 3 (.tmp 57) (.tmp 62) 3 4 "cond.go:34" #[{ on := 5, ground := Ground.data }, { on := 10, ground := Ground.data }, { on := 2, ground := Ground.guard }]) opBin_nat, (some (2, 54, true))⟩,
          ⟨.p (opPick (some 64) (.tmp 54) (.tmp 63) (.const (Value.bool false)) 4 "cond.go:34" #[{ on := 2, ground := Ground.data }, { on := 11, ground := Ground.data }]), none⟩,
          ⟨.p (opAssign (some 51) (.tmp 64) 4 "cond.go:34" #[{ on := 12, ground := Ground.data }, { on := 2, ground := Ground.chain }]), none⟩
        ] mixed (by kernel_rfl)))
        (.cond (.tmp 51)
          (.seq (.live [4] (.region 9 [
            ⟨(opAssign (some 4) (.const (Value.int IntKind.i64 14)) 44 "cond.go:35" #[]).op, none⟩
          ] (by kernel_rfl)))
          (.live [4] .ret))
          .skip)))))))
  (.seq (.live [4] (.region 10 [
    ⟨(opAssign (some 4) (.const (Value.int IntKind.i64 0)) 44 "cond.go:37" #[]).op, none⟩
  ] (by kernel_rfl)))
  (.live [4] .ret)))))))

noncomputable def f25 : Fun Try.prog where
  id := 25
  fn := Try.f25
  hf := Try.func25
  hname := by kernel_rfl
  body := f25_b
  hbody := by kernel_rfl
  res := [rTmp 4]
  hres := by kernel_rfl
  n := 65
  hn := by kernel_rfl

/-! ### 15: interlock/cond.Right (31, 26); results 4; slots: 0 l, 1 cols, 2 l, 3 cols, 5 _, 6 c, 7 e -/
/-- A loop's round; at its head live: 1 cols, 11 , 12 , 13  -/
noncomputable def f15_l0 : Sim Try.prog :=
  (.seq (.live [1, 11, 12, 13, 14] (.region 4 [
    ⟨(opBin (some 14) .lss 3 (.tmp 13) (.tmp 12) 3 0 "cond.go:45" #[]).op, none⟩
  ] (by kernel_rfl)))
  (.seq (.cond (.tmp 14)
    .skip
    (.live [] (.exit 0)))
  (.seq (.block 1 (.seq (.live [1, 6, 11, 12, 13] (.region 5 [
      ⟨(opIndexAddrT (some 15) 31 (.tmp 11) (.tmp 13) 25 5 Try.underlying31 sz25 0 "cond.go:45" #[]).op, none⟩,
      ⟨(opLoadT (.agg [.str, (.int .i64), (.int .i64), (.int .i64), .str]) (some 16) 25 (.tmp 15) d25 ud25 5 sz25 (by kernel_rfl) 25 "cond.go:45" #[{ on := 0, ground := Ground.data }]).op, none⟩,
      ⟨(opAlloc (some 6) 25 (.agg #[(.string ⟨#[]⟩), (.int .i64 0), (.int .i64 0), (.int .i64 0), (.string ⟨#[]⟩)]) ze25 0 "cond.go:45" #[]).op, none⟩,
      ⟨(opStore none 25 (.tmp 6) (.tmp 16) 5 sz25 0 "cond.go:45" #[{ on := 2, ground := Ground.data }, { on := 1, ground := Ground.data }, { on := 0, ground := Ground.phase }, { on := 1, ground := Ground.phase }, { on := 2, ground := Ground.phase }]).op, none⟩
    ] (by kernel_rfl)))
    (.seq (.live [1, 7, 11, 12, 13] (.region 6 [
      ⟨(opLoadT (.agg [.str, (.int .i64), (.int .i64), (.int .i64), .str]) (some 17) 25 (.tmp 6) d25 ud25 5 sz25 (by kernel_rfl) 25 "cond.go:46" #[]).op, none⟩,
      ⟨(opMove (some 18) (.tmp 1) 26 "cond.go:46" #[]).op, none⟩,
      ⟨opCall (f25.orc 5) (some 19) [(.tmp 17), (.tmp 18)] #[25, 26] 44 "cond.go:46" #[{ on := 0, ground := Ground.data }, { on := 1, ground := Ground.data }], none⟩,
      ⟨(opAssign (some 7) (.tmp 19) 44 "cond.go:46" #[{ on := 2, ground := Ground.data }, { on := 2, ground := Ground.chain }, { on := 0, ground := Ground.phase }, { on := 1, ground := Ground.phase }, { on := 2, ground := Ground.phase }]).op, none⟩
    ] (by kernel_rfl)))
    (.seq (.live [1, 7, 11, 12, 13, 21] (.region 7 [
      ⟨(opMove (some 20) (.tmp 7) 44 "cond.go:46" #[]).op, none⟩,
      ⟨(opBin (some 21) .neq 44 (.tmp 20) (.const (Value.int IntKind.i64 0)) 44 4 "cond.go:46" #[{ on := 0, ground := Ground.data }]).op, none⟩
    ] (by kernel_rfl)))
    (.cond (.tmp 21)
      (.seq (.live [4] (.region 8 [
        ⟨(opMove (some 22) (.tmp 7) 44 "cond.go:47" #[]).op, none⟩,
        ⟨(opAssign (some 4) (.tmp 22) 44 "cond.go:47" #[{ on := 0, ground := Ground.data }, { on := 0, ground := Ground.phase }]).op, none⟩
      ] (by kernel_rfl)))
      (.live [4] .ret))
      .skip)))))
  (.live [1, 11, 12, 13] (.region 9 [
    ⟨(opBin (some 23) .add 3 (.tmp 13) (.const (Value.int IntKind.i64 1)) 3 3 "cond.go:45" #[]).op, none⟩,
    ⟨(opMove (some 13) (.tmp 23) 3 "cond.go:45" #[{ on := 0, ground := Ground.data }]).op, none⟩
  ] (by kernel_rfl))))))

/-- What follows a loop. -/
noncomputable def f15_r0 : Sim Try.prog :=
  (.seq (.live [4] (.region 10 [
    ⟨(opAssign (some 4) (.const (Value.int IntKind.i64 0)) 44 "cond.go:50" #[]).op, none⟩
  ] (by kernel_rfl)))
  (.live [4] .ret))

noncomputable def f15_b : Sim Try.prog :=
  (.seq (.live [0, 1] (.region 0 [
    ⟨(opAssign (some 4) (.const (Value.int IntKind.i64 0)) 44 "cond.go:41" #[]).op, none⟩
  ] (by kernel_rfl)))
  (.seq (.seq (.live [0, 1, 10] (.region 1 [
    ⟨(opMove (some 8) (.tmp 0) 31 "cond.go:42" #[]).op, none⟩,
    ⟨(opLen (some 9) (.tmp 8) 31 (.slice 25) Try.underlying31 3 "cond.go:42" #[{ on := 0, ground := Ground.data }]).op, none⟩,
    ⟨(opBin (some 10) .gtr 3 (.tmp 9) (.const (Value.int IntKind.i64 8)) 3 4 "cond.go:42" #[{ on := 1, ground := Ground.data }]).op, none⟩
  ] (by kernel_rfl)))
  (.cond (.tmp 10)
    (.seq (.live [4] (.region 2 [
      ⟨(opAssign (some 4) (.const (Value.int IntKind.i64 15)) 44 "cond.go:43" #[]).op, none⟩
    ] (by kernel_rfl)))
    (.live [4] .ret))
    .skip))
  (.seq (.seq (.live [1, 11, 12, 13] (.region 3 [
    ⟨(opMove (some 11) (.tmp 0) 31 "cond.go:45" #[]).op, none⟩,
    ⟨(opLen (some 12) (.tmp 11) 31 (.slice 25) Try.underlying31 3 "cond.go:45" #[{ on := 0, ground := Ground.data }]).op, none⟩,
    ⟨(opMove (some 13) (.const (Value.int IntKind.i64 0)) 3 "cond.go:45" #[]).op, none⟩
  ] (by kernel_rfl)))
  (.block 0 (.loop [1, 11, 12, 13] f15_l0)))
  f15_r0)))

noncomputable def f15 : Fun Try.prog where
  id := 15
  fn := Try.f15
  hf := Try.func15
  hname := by kernel_rfl
  body := f15_b
  hbody := by kernel_rfl
  res := [rTmp 4]
  hres := by kernel_rfl
  n := 24
  hn := by kernel_rfl

/-! ### 7: interlock/interlocklaw12.alive (); results 0; slots: 1 cols, 2 c -/
noncomputable def f7_b : Sim Try.prog :=
  (.seq (.live [] (.region 0 [
    ⟨(opAssign (some 0) (.const (Value.bool false)) 4 "law.go:12" #[]).op, none⟩
  ] (by kernel_rfl)))
  (.seq (.live [1] (.region 1 [
    ⟨(opBuild (some 3) 42 #[(.string ⟨#[]⟩), (.int .i64 0), (.bool false)] [(0, 0, 1, (.const (Value.string { data := #[97] }))), (1, 1, 1, (.const (Value.int IntKind.i64 1)))] ze42 (by kernel_rfl) 42 "law.go:13" #[]).op, none⟩,
    ⟨(opBuildSlice (some 4) 26 1 [(0, (.tmp 3))] 42 3 32 (.agg #[(.string ⟨#[]⟩), (.int .i64 0), (.bool false)]) el26 (by kernel_rfl) (by decide) 26 "law.go:13" #[{ on := 0, ground := Ground.data }]).op, none⟩,
    ⟨(opAssign (some 1) (.tmp 4) 26 "law.go:13" #[{ on := 1, ground := Ground.data }, { on := 0, ground := Ground.phase }, { on := 1, ground := Ground.phase }]).op, none⟩
  ] (by kernel_rfl)))
  (.seq (.live [1, 2] (.region 2 [
    ⟨(opBuild (some 5) 23 #[(.int .i64 0), (.int .i64 0), (.string ⟨#[]⟩)] [(0, 0, 1, (.const (Value.int IntKind.i64 1))), (1, 1, 1, (.const (Value.int IntKind.i64 3)))] ze23 (by kernel_rfl) 23 "law.go:14" #[]).op, none⟩,
    ⟨(opBuild (some 6) 25 #[(.string ⟨#[]⟩), (.int .i64 0), (.int .i64 0), (.int .i64 0), (.string ⟨#[]⟩)] [(0, 0, 1, (.const (Value.string { data := #[97] }))), (1, 1, 1, (.const (Value.int IntKind.i64 4))), (2, 2, 3, (.tmp 5))] ze25 (by kernel_rfl) 25 "law.go:14" #[{ on := 0, ground := Ground.data }]).op, none⟩,
    ⟨(opAlloc (some 2) 25 (.agg #[(.string ⟨#[]⟩), (.int .i64 0), (.int .i64 0), (.int .i64 0), (.string ⟨#[]⟩)]) ze25 0 "law.go:14" #[]).op, none⟩,
    ⟨(opStore none 25 (.tmp 2) (.tmp 6) 5 sz25 0 "law.go:14" #[{ on := 2, ground := Ground.data }, { on := 1, ground := Ground.data }, { on := 0, ground := Ground.phase }, { on := 1, ground := Ground.phase }, { on := 2, ground := Ground.phase }]).op, none⟩
  ] (by kernel_rfl)))
  (.seq (.live [0] (.region 3 [
    ⟨(opLoadT (.agg [.str, (.int .i64), (.int .i64), (.int .i64), .str]) (some 7) 25 (.tmp 2) d25 ud25 5 sz25 (by kernel_rfl) 25 "law.go:15" #[]).op, none⟩,
    ⟨(opMove (some 8) (.tmp 1) 26 "law.go:15" #[]).op, none⟩,
    ⟨(opBuild (some 9) 23 #[(.int .i64 0), (.int .i64 0), (.string ⟨#[]⟩)] [(0, 0, 1, (.const (Value.int IntKind.i64 1))), (1, 1, 1, (.const (Value.int IntKind.i64 4)))] ze23 (by kernel_rfl) 23 "law.go:15" #[]).op, none⟩,
    ⟨(opBuildSlice (some 10) 28 1 [(0, (.tmp 9))] 23 3 32 (.agg #[(.int .i64 0), (.int .i64 0), (.string ⟨#[]⟩)]) el28 (by kernel_rfl) (by decide) 28 "law.go:15" #[{ on := 2, ground := Ground.data }]).op, none⟩,
    ⟨(opCallP p9 (some 11) [(.tmp 7), (.tmp 8), (.tmp 10)] #[25, 26, 28] 3 "law.go:15" #[{ on := 0, ground := Ground.data }, { on := 1, ground := Ground.data }, { on := 3, ground := Ground.data }]).op, none⟩,
    ⟨(opBin (some 12) .eql 3 (.tmp 11) (.const (Value.int IntKind.i64 1)) 3 4 "law.go:15" #[{ on := 4, ground := Ground.data }]).op, none⟩,
    ⟨(opMove (some 13) (.tmp 12) 4 "law.go:15" #[{ on := 5, ground := Ground.data }, { on := 4, ground := Ground.chain }]).op, none⟩,
    ⟨(opLoadT (.agg [.str, (.int .i64), (.int .i64), (.int .i64), .str]) (some 14) 25 (.tmp 2) d25 ud25 5 sz25 (by kernel_rfl) 25 "law.go:15" #[{ on := 6, ground := Ground.guard }]).op, (some (6, 13, true))⟩,
    ⟨(opMove (some 15) (.tmp 1) 26 "law.go:15" #[{ on := 6, ground := Ground.guard }]).op, (some (6, 13, true))⟩,
    ⟨(opBuild (some 16) 23 #[(.int .i64 0), (.int .i64 0), (.string ⟨#[]⟩)] [] ze23 (by kernel_rfl) 23 "law.go:15" #[{ on := 6, ground := Ground.guard }]).op, (some (6, 13, true))⟩,
    ⟨(opBuildSlice (some 17) 28 1 [(0, (.tmp 16))] 23 3 32 (.agg #[(.int .i64 0), (.int .i64 0), (.string ⟨#[]⟩)]) el28 (by kernel_rfl) (by decide) 28 "law.go:15" #[{ on := 9, ground := Ground.data }, { on := 6, ground := Ground.guard }]).op, (some (6, 13, true))⟩,
    ⟨(opCallP p9 (some 18) [(.tmp 14), (.tmp 15), (.tmp 17)] #[25, 26, 28] 3 "law.go:15" #[{ on := 7, ground := Ground.data }, { on := 8, ground := Ground.data }, { on := 10, ground := Ground.data }, { on := 6, ground := Ground.chain }, { on := 6, ground := Ground.guard }]).op, (some (6, 13, true))⟩,
    ⟨(opBin (some 19) .eql 3 (.tmp 18) (.const (Value.int IntKind.i64 (-1))) 3 4 "law.go:15" #[{ on := 11, ground := Ground.data }, { on := 6, ground := Ground.guard }]).op, (some (6, 13, true))⟩,
    ⟨(opPick (some 20) (.tmp 13) (.tmp 19) (.const (Value.bool false)) 4 "law.go:15" #[{ on := 6, ground := Ground.data }, { on := 12, ground := Ground.data }]).op, none⟩,
    ⟨(opMove (some 21) (.tmp 20) 4 "law.go:15" #[{ on := 13, ground := Ground.data }, { on := 11, ground := Ground.chain }]).op, none⟩,
    ⟨(opLoadT (.agg [.str, (.int .i64), (.int .i64), (.int .i64), .str]) (some 22) 25 (.tmp 2) d25 ud25 5 sz25 (by kernel_rfl) 25 "law.go:15" #[{ on := 14, ground := Ground.guard }]).op, (some (14, 21, true))⟩,
    ⟨(opBuildSlice (some 23) 31 1 [(0, (.tmp 22))] 25 5 56 (.agg #[(.string ⟨#[]⟩), (.int .i64 0), (.int .i64 0), (.int .i64 0), (.string ⟨#[]⟩)]) el31 (by kernel_rfl) (by decide) 31 "law.go:15" #[{ on := 15, ground := Ground.data }, { on := 14, ground := Ground.guard }]).op, (some (14, 21, true))⟩,
    ⟨(opMove (some 24) (.tmp 1) 26 "law.go:15" #[{ on := 14, ground := Ground.guard }]).op, (some (14, 21, true))⟩,
    ⟨opCall (f15.orc 5) (some 25) [(.tmp 23), (.tmp 24)] #[31, 26] 44 "law.go:15" #[{ on := 16, ground := Ground.data }, { on := 17, ground := Ground.data }, { on := 14, ground := Ground.chain }, { on := 14, ground := Ground.guard }], (some (14, 21, true))⟩,
    ⟨(opBin (some 26) .eql 44 (.tmp 25) (.const (Value.int IntKind.i64 0)) 44 4 "law.go:15" #[{ on := 18, ground := Ground.data }, { on := 14, ground := Ground.guard }]).op, (some (14, 21, true))⟩,
    ⟨(opPick (some 27) (.tmp 21) (.tmp 26) (.const (Value.bool false)) 4 "law.go:15" #[{ on := 14, ground := Ground.data }, { on := 19, ground := Ground.data }]).op, none⟩,
    ⟨(opMove (some 28) (.tmp 27) 4 "law.go:15" #[{ on := 20, ground := Ground.data }, { on := 18, ground := Ground.chain }]).op, none⟩,
    ⟨(opLoadT (.agg [.str, (.int .i64), (.int .i64), (.int .i64), .str]) (some 29) 25 (.tmp 2) d25 ud25 5 sz25 (by kernel_rfl) 25 "law.go:15" #[{ on := 21, ground := Ground.guard }]).op, (some (21, 28, true))⟩,
    ⟨(opBuildSlice (some 30) 31 1 [(0, (.tmp 29))] 25 5 56 (.agg #[(.string ⟨#[]⟩), (.int .i64 0), (.int .i64 0), (.int .i64 0), (.string ⟨#[]⟩)]) el31 (by kernel_rfl) (by decide) 31 "law.go:15" #[{ on := 22, ground := Ground.data }, { on := 21, ground := Ground.guard }]).op, (some (21, 28, true))⟩,
    ⟨opCall (f15.orc 5) (some 31) [(.tmp 30), (.const (Value.slice none 0 0))] #[31, 26] 44 "law.go:15" #[{ on := 23, ground := Ground.data }, { on := 21, ground := Ground.chain }, { on := 21, ground := Ground.guard }], (some (21, 28, true))⟩,
    ⟨(opBin (some 32) .eql 44 (.tmp 31) (.const (Value.int IntKind.i64 13)) 44 4 "law.go:15" #[{ on := 24, ground := Ground.data }, { on := 21, ground := Ground.guard }]).op, (some (21, 28, true))⟩,
    ⟨(opPick (some 33) (.tmp 28) (.tmp 32) (.const (Value.bool false)) 4 "law.go:15" #[{ on := 21, ground := Ground.data }, { on := 25, ground := Ground.data }]).op, none⟩,
    ⟨(opMove (some 34) (.tmp 33) 4 "law.go:15" #[{ on := 26, ground := Ground.data }, { on := 24, ground := Ground.chain }]).op, none⟩,
    ⟨(opLoadT (.agg [.str, (.int .i64), (.int .i64), (.int .i64), .str]) (some 35) 25 (.tmp 2) d25 ud25 5 sz25 (by kernel_rfl) 25 "law.go:15" #[{ on := 27, ground := Ground.guard }]).op, (some (27, 34, true))⟩,
    ⟨(opBuildSlice (some 36) 31 1 [(0, (.tmp 35))] 25 5 56 (.agg #[(.string ⟨#[]⟩), (.int .i64 0), (.int .i64 0), (.int .i64 0), (.string ⟨#[]⟩)]) el31 (by kernel_rfl) (by decide) 31 "law.go:15" #[{ on := 28, ground := Ground.data }, { on := 27, ground := Ground.guard }]).op, (some (27, 34, true))⟩,
    ⟨(opMove (some 37) (.tmp 1) 26 "law.go:15" #[{ on := 27, ground := Ground.guard }]).op, (some (27, 34, true))⟩,
    ⟨(opBuild (some 38) 23 #[(.int .i64 0), (.int .i64 0), (.string ⟨#[]⟩)] [] ze23 (by kernel_rfl) 23 "law.go:15" #[{ on := 27, ground := Ground.guard }]).op, (some (27, 34, true))⟩,
    ⟨(opBuildSlice (some 39) 28 1 [(0, (.tmp 38))] 23 3 32 (.agg #[(.int .i64 0), (.int .i64 0), (.string ⟨#[]⟩)]) el28 (by kernel_rfl) (by decide) 28 "law.go:15" #[{ on := 31, ground := Ground.data }, { on := 27, ground := Ground.guard }]).op, (some (27, 34, true))⟩,
    ⟨(opCallP p10 (some 40) [(.tmp 36), (.tmp 37), (.tmp 39)] #[31, 26, 28] 4 "law.go:15" #[{ on := 29, ground := Ground.data }, { on := 30, ground := Ground.data }, { on := 32, ground := Ground.data }, { on := 27, ground := Ground.chain }, { on := 27, ground := Ground.guard }]).op, (some (27, 34, true))⟩,
    ⟨(opNot (some 41) 4 (.tmp 40) 4 "law.go:15" #[{ on := 33, ground := Ground.data }, { on := 27, ground := Ground.guard }]).op, (some (27, 34, true))⟩,
    ⟨(opPick (some 42) (.tmp 34) (.tmp 41) (.const (Value.bool false)) 4 "law.go:15" #[{ on := 27, ground := Ground.data }, { on := 34, ground := Ground.data }]).op, none⟩,
    ⟨(opAssign (some 0) (.tmp 42) 4 "law.go:15" #[{ on := 35, ground := Ground.data }, { on := 33, ground := Ground.chain }, { on := 0, ground := Ground.phase }, { on := 1, ground := Ground.phase }, { on := 2, ground := Ground.phase }, { on := 3, ground := Ground.phase }, { on := 4, ground := Ground.phase }, { on := 5, ground := Ground.phase }, { on := 6, ground := Ground.phase }, { on := 7, ground := Ground.phase }, { on := 8, ground := Ground.phase }, { on := 9, ground := Ground.phase }, { on := 10, ground := Ground.phase }, { on := 11, ground := Ground.phase }, { on := 12, ground := Ground.phase }, { on := 13, ground := Ground.phase }, { on := 14, ground := Ground.phase }, { on := 15, ground := Ground.phase }, { on := 16, ground := Ground.phase }, { on := 17, ground := Ground.phase }, { on := 18, ground := Ground.phase }, { on := 19, ground := Ground.phase }, { on := 20, ground := Ground.phase }, { on := 21, ground := Ground.phase }, { on := 22, ground := Ground.phase }, { on := 23, ground := Ground.phase }, { on := 24, ground := Ground.phase }, { on := 25, ground := Ground.phase }, { on := 26, ground := Ground.phase }, { on := 27, ground := Ground.phase }, { on := 28, ground := Ground.phase }, { on := 29, ground := Ground.phase }, { on := 30, ground := Ground.phase }, { on := 31, ground := Ground.phase }, { on := 32, ground := Ground.phase }, { on := 33, ground := Ground.phase }, { on := 34, ground := Ground.phase }, { on := 35, ground := Ground.phase }]).op, none⟩
  ] (by kernel_rfl)))
  (.live [0] .ret)))))

noncomputable def f7 : Fun Try.prog where
  id := 7
  fn := Try.f7
  hf := Try.func7
  hname := by kernel_rfl
  body := f7_b
  hbody := by kernel_rfl
  res := [rTmp 0]
  hres := by kernel_rfl
  n := 43
  hn := by kernel_rfl

end Go.Proofs.Ytnmglmkkeghnaaa.V

/- What the functions' runs come to; the right sides were printed by a tool, Lean checks them. -/
set_option linter.unusedVariables false
set_option maxRecDepth 100000
namespace Go.Proofs.Ytnmglmkkeghnaaa.V
open Go Go.V Go.RowKit

theorem gr_sss (F : Nat) (fl : Bool) (l : List (List AV)) (fc : Bool) (c : List (List AV)) (fr : Bool) (r : List (List AV)) (st : St) :
    (f8.run F [.sl 5 fl l, .sl 3 fc c, .sl 3 fr r] st : Ans) =
    branch (AV.bool (decide ((↑l.length : Int) > 100))) (some (Fin.ret (AV.bool true), st))
      (branch (AV.bool (decide ((↑c.length : Int) > 100))) (some (Fin.ret (AV.bool true), st))
        (branch (AV.bool (decide ((↑r.length : Int) > 100))) (some (Fin.ret (AV.bool true), st))
          (loopRun (f8_l0.run F) [0, 1, 2, 7]
            (Cont.block 0 (Cont.then (f8_r2.run F (f8.leaveK Fun.done)) (f8.leaveK Fun.done))) F
            (Env.mk 72 [(0, AV.sl 5 fl l), (1, AV.sl 3 fc c), (2, AV.sl 3 fr r), (7, AV.int IntKind.i64 0)]) st))) := by kernel_rfl

theorem gr_ssn (F : Nat) (fl : Bool) (l : List (List AV)) (fc : Bool) (c : List (List AV)) (st : St) :
    (f8.run F [.sl 5 fl l, .sl 3 fc c, .nilsl] st : Ans) =
    branch (AV.bool (decide ((↑l.length : Int) > 100))) (some (Fin.ret (AV.bool true), st))
      (branch (AV.bool (decide ((↑c.length : Int) > 100))) (some (Fin.ret (AV.bool true), st))
        (loopRun (f8_l0.run F) [0, 1, 2, 7]
          (Cont.block 0 (Cont.then (f8_r2.run F (f8.leaveK Fun.done)) (f8.leaveK Fun.done))) F
          (Env.mk 72 [(0, AV.sl 5 fl l), (1, AV.sl 3 fc c), (2, AV.nilsl), (7, AV.int IntKind.i64 0)]) st)) := by kernel_rfl

theorem gr_sns (F : Nat) (fl : Bool) (l : List (List AV)) (fr : Bool) (r : List (List AV)) (st : St) :
    (f8.run F [.sl 5 fl l, .nilsl, .sl 3 fr r] st : Ans) =
    branch (AV.bool (decide ((↑l.length : Int) > 100))) (some (Fin.ret (AV.bool true), st))
      (branch (AV.bool (decide ((↑r.length : Int) > 100))) (some (Fin.ret (AV.bool true), st))
        (loopRun (f8_l0.run F) [0, 1, 2, 7]
          (Cont.block 0 (Cont.then (f8_r2.run F (f8.leaveK Fun.done)) (f8.leaveK Fun.done))) F
          (Env.mk 72 [(0, AV.sl 5 fl l), (1, AV.nilsl), (2, AV.sl 3 fr r), (7, AV.int IntKind.i64 0)]) st)) := by kernel_rfl

theorem gr_snn (F : Nat) (fl : Bool) (l : List (List AV)) (st : St) :
    (f8.run F [.sl 5 fl l, .nilsl, .nilsl] st : Ans) =
    branch (AV.bool (decide ((↑l.length : Int) > 100))) (some (Fin.ret (AV.bool true), st))
      (loopRun (f8_l0.run F) [0, 1, 2, 7] (Cont.block 0 (Cont.then (f8_r2.run F (f8.leaveK Fun.done)) (f8.leaveK Fun.done)))
        F (Env.mk 72 [(0, AV.sl 5 fl l), (1, AV.nilsl), (2, AV.nilsl), (7, AV.int IntKind.i64 0)]) st) := by kernel_rfl

theorem gr_nss (F : Nat) (fc : Bool) (c : List (List AV)) (fr : Bool) (r : List (List AV)) (st : St) :
    (f8.run F [.nilsl, .sl 3 fc c, .sl 3 fr r] st : Ans) =
    branch (AV.bool (decide ((↑c.length : Int) > 100))) (some (Fin.ret (AV.bool true), st))
      (branch (AV.bool (decide ((↑r.length : Int) > 100))) (some (Fin.ret (AV.bool true), st))
        (loopRun (f8_l0.run F) [0, 1, 2, 7]
          (Cont.block 0 (Cont.then (f8_r2.run F (f8.leaveK Fun.done)) (f8.leaveK Fun.done))) F
          (Env.mk 72 [(0, AV.nilsl), (1, AV.sl 3 fc c), (2, AV.sl 3 fr r), (7, AV.int IntKind.i64 0)]) st)) := by kernel_rfl

theorem gr_nsn (F : Nat) (fc : Bool) (c : List (List AV)) (st : St) :
    (f8.run F [.nilsl, .sl 3 fc c, .nilsl] st : Ans) =
    branch (AV.bool (decide ((↑c.length : Int) > 100))) (some (Fin.ret (AV.bool true), st))
      (loopRun (f8_l0.run F) [0, 1, 2, 7] (Cont.block 0 (Cont.then (f8_r2.run F (f8.leaveK Fun.done)) (f8.leaveK Fun.done)))
        F (Env.mk 72 [(0, AV.nilsl), (1, AV.sl 3 fc c), (2, AV.nilsl), (7, AV.int IntKind.i64 0)]) st) := by kernel_rfl

theorem gr_nns (F : Nat) (fr : Bool) (r : List (List AV)) (st : St) :
    (f8.run F [.nilsl, .nilsl, .sl 3 fr r] st : Ans) =
    branch (AV.bool (decide ((↑r.length : Int) > 100))) (some (Fin.ret (AV.bool true), st))
      (loopRun (f8_l0.run F) [0, 1, 2, 7] (Cont.block 0 (Cont.then (f8_r2.run F (f8.leaveK Fun.done)) (f8.leaveK Fun.done)))
        F (Env.mk 72 [(0, AV.nilsl), (1, AV.nilsl), (2, AV.sl 3 fr r), (7, AV.int IntKind.i64 0)]) st) := by kernel_rfl

theorem gr_nnn (F : Nat)  (st : St) :
    (f8.run F [.nilsl, .nilsl, .nilsl] st : Ans) =
    loopRun (f8_l0.run F) [0, 1, 2, 7] (Cont.block 0 (Cont.then (f8_r2.run F (f8.leaveK Fun.done)) (f8.leaveK Fun.done))) F
      (Env.mk 72 [(0, AV.nilsl), (1, AV.nilsl), (2, AV.nilsl), (7, AV.int IntKind.i64 0)]) st := by kernel_rfl

theorem alive_run  :
    (f7.run 10 [] ⟨[], []⟩ : Ans) =
    some
      (Fin.ret (AV.bool true),
        St.mk
          [Ob.cells
              [AV.str (ByteArray.mk #[97]), AV.int IntKind.i64 4, AV.int IntKind.i64 1, AV.int IntKind.i64 3,
                AV.str (ByteArray.mk #[])],
            Ob.cells
              [AV.str (ByteArray.mk #[97]), AV.int IntKind.i64 4, AV.int IntKind.i64 1, AV.int IntKind.i64 3,
                AV.str (ByteArray.mk #[])],
            Ob.cells
              [AV.str (ByteArray.mk #[97]), AV.int IntKind.i64 4, AV.int IntKind.i64 1, AV.int IntKind.i64 3,
                AV.str (ByteArray.mk #[])]]
          []) := by kernel_rfl

theorem g0_round (F m : Nat) (K : Cont) (f : Bool) (i : Int) (l : List (List AV)) (y z : AV) (st : St) :
    (loopRun (f8_l0.run F) [0, 1, 2, 7] K m.succ (Env.mk 72 [(0, .sl 5 f l), (1, y), (2, z), (7, .int .i64 i)]) st : Ans) =
    branch (AV.bool (decide (i < (↑l.length : Int))))
      (branch (AV.bool (inR l i))
        (branch (AV.bool ((LD.one LT.str).is (List.drop 2 (List.drop 2 (V.rowAt l i)))))
          (branch (AV.bool (decide ((↑(hdS (List.drop 2 (List.drop 2 (V.rowAt l i)))).size : Int) > 500)))
            (K AX.ret (Env.mk 72 [(6, AV.bool true)]) st)
            (branch (AV.bool (inR l i))
              (branch (AV.bool ((LD.one LT.str).is (List.drop 0 (V.rowAt l i))))
                (branch (AV.bool (decide ((↑(hdS (List.drop 0 (V.rowAt l i))).size : Int) > 500)))
                  (K AX.ret (Env.mk 72 [(6, AV.bool true)]) st)
                  (loopRun (f8_l0.run F) [0, 1, 2, 7] K m
                    (Env.mk 72 [(0, AV.sl 5 f l), (1, y), (2, z), (7, AV.int IntKind.i64 (IntKind.i64.wrap (i + 1)))]) st))
                none)
              none))
          none)
        none)
      (K (AX.exit 0) (Env.mk 72 [(1, y), (2, z)]) st) := by kernel_rfl

theorem g0_nil (F m : Nat) (K : Cont) (y z : AV) (st : St) :
    (loopRun (f8_l0.run F) [0, 1, 2, 7] K m.succ (Env.mk 72 [(0, .nilsl), (1, y), (2, z), (7, .int .i64 0)]) st : Ans) =
    K (AX.exit 0) (Env.mk 72 [(1, y), (2, z)]) st := by kernel_rfl

theorem g0_out (F : Nat) (y z : AV) (st : St) :
    ((Cont.block 0 (Cont.then (f8_r2.run F (f8.leaveK Fun.done)) (f8.leaveK Fun.done))) (.exit 0) (Env.mk 72 [(1, y), (2, z)]) st : Ans) =
    loopRun (f8_l1.run F) [1, 2, 8] (Cont.block 2 (Cont.then (f8_r1.run F (f8.leaveK Fun.done)) (f8.leaveK Fun.done))) F
      (Env.mk 72 [(1, y), (2, z), (8, AV.int IntKind.i64 0)]) st := by kernel_rfl

theorem g1_round (F m : Nat) (K : Cont) (f : Bool) (i : Int) (l : List (List AV)) (z : AV) (st : St) :
    (loopRun (f8_l1.run F) [1, 2, 8] K m.succ (Env.mk 72 [(1, .sl 3 f l), (2, z), (8, .int .i64 i)]) st : Ans) =
    branch (AV.bool (decide (i < (↑l.length : Int))))
      (branch (AV.bool (inR l i))
        (branch (AV.bool ((LD.one LT.str).is (List.drop 0 (V.rowAt l i))))
          (branch (AV.bool (decide ((↑(hdS (List.drop 0 (V.rowAt l i))).size : Int) > 500)))
            (K AX.ret (Env.mk 72 [(6, AV.bool true)]) st)
            (loopRun (f8_l1.run F) [1, 2, 8] K m
              (Env.mk 72 [(1, AV.sl 3 f l), (2, z), (8, AV.int IntKind.i64 (IntKind.i64.wrap (i + 1)))]) st))
          none)
        none)
      (K (AX.exit 2) (Env.mk 72 [(2, z)]) st) := by kernel_rfl

theorem g1_nil (F m : Nat) (K : Cont) (z : AV) (st : St) :
    (loopRun (f8_l1.run F) [1, 2, 8] K m.succ (Env.mk 72 [(1, .nilsl), (2, z), (8, .int .i64 0)]) st : Ans) =
    K (AX.exit 2) (Env.mk 72 [(2, z)]) st := by kernel_rfl

theorem g1_out (F : Nat) (z : AV) (st : St) :
    ((Cont.block 2 (Cont.then (f8_r1.run F (f8.leaveK Fun.done)) (f8.leaveK Fun.done))) (.exit 2) (Env.mk 72 [(2, z)]) st : Ans) =
    loopRun (f8_l2.run F) [2, 9] (Cont.block 4 (Cont.then (f8_r0.run F (f8.leaveK Fun.done)) (f8.leaveK Fun.done))) F
      (Env.mk 72 [(2, z), (9, AV.int IntKind.i64 0)]) st := by kernel_rfl

theorem g2_round (F m : Nat) (K : Cont) (f : Bool) (i : Int) (l : List (List AV)) (st : St) :
    (loopRun (f8_l2.run F) [2, 9] K m.succ (Env.mk 72 [(2, .sl 3 f l), (9, .int .i64 i)]) st : Ans) =
    branch (AV.bool (decide (i < (↑l.length : Int))))
      (branch (AV.bool (inR l i))
        (branch (AV.bool ((LD.one LT.str).is (List.drop 2 (V.rowAt l i))))
          (branch (AV.bool (decide ((↑(hdS (List.drop 2 (V.rowAt l i))).size : Int) > 500)))
            (K AX.ret (Env.mk 72 [(6, AV.bool true)]) st)
            (loopRun (f8_l2.run F) [2, 9] K m
              (Env.mk 72 [(2, AV.sl 3 f l), (9, AV.int IntKind.i64 (IntKind.i64.wrap (i + 1)))]) st))
          none)
        none)
      (K (AX.exit 4) (Env.mk 72 []) st) := by kernel_rfl

theorem g2_nil (F m : Nat) (K : Cont) (st : St) :
    (loopRun (f8_l2.run F) [2, 9] K m.succ (Env.mk 72 [(2, .nilsl), (9, .int .i64 0)]) st : Ans) =
    K (AX.exit 4) (Env.mk 72 []) st := by kernel_rfl

theorem g2_out (F : Nat) (st : St) :
    ((Cont.block 4 (Cont.then (f8_r0.run F (f8.leaveK Fun.done)) (f8.leaveK Fun.done))) (.exit 4) (Env.mk 72 []) st : Ans) =
    some (Fin.ret (AV.bool false), st) := by kernel_rfl

theorem g0_ret (F : Nat) (st : St) :
    ((Cont.block 0 (Cont.then (f8_r2.run F (f8.leaveK Fun.done)) (f8.leaveK Fun.done))) .ret (Env.mk 72 [(6, .bool true)]) st : Ans) =
    some (Fin.ret (AV.bool true), st) := by kernel_rfl

theorem g1_ret (F : Nat) (st : St) :
    ((Cont.block 2 (Cont.then (f8_r1.run F (f8.leaveK Fun.done)) (f8.leaveK Fun.done))) .ret (Env.mk 72 [(6, .bool true)]) st : Ans) =
    some (Fin.ret (AV.bool true), st) := by kernel_rfl

theorem g2_ret (F : Nat) (st : St) :
    ((Cont.block 4 (Cont.then (f8_r0.run F (f8.leaveK Fun.done)) (f8.leaveK Fun.done))) .ret (Env.mk 72 [(6, .bool true)]) st : Ans) =
    some (Fin.ret (AV.bool true), st) := by kernel_rfl

end Go.Proofs.Ytnmglmkkeghnaaa.V

/- Cond: what is too great to be looked at, as a callee; alive. -/
set_option linter.unusedVariables false
namespace Go.Proofs.Ytnmglmkkeghnaaa.V
open Go Go.V Go.RowKit

def g0 (r : List AV) : Bool := decide (((hdS (List.drop 2 (List.drop 2 r))).size : Int) > 500) || decide (((hdS (List.drop 0 r)).size : Int) > 500)
def g1 (r : List AV) : Bool := decide (((hdS (List.drop 0 r)).size : Int) > 500)
def g2 (r : List AV) : Bool := decide (((hdS (List.drop 2 r)).size : Int) > 500)
theorem cd_s1 {r : List AV} (h : isRow tCd r = true) : (LD.one LT.str).is (List.drop 2 (List.drop 2 r)) = true := by
  rw [isRow_eq h]; rfl
theorem cd_s0 {r : List AV} (h : isRow tCd r = true) : (LD.one LT.str).is (List.drop 0 r) = true := by
  rw [isRow_eq h]; rfl
theorem col_s0 {r : List AV} (h : isCol r = true) : (LD.one LT.str).is (List.drop 0 r) = true := by
  rw [isRow_eq h]; rfl
theorem va_s2 {r : List AV} (h : isRow tVa r = true) : (LD.one LT.str).is (List.drop 2 r) = true := by
  rw [isRow_eq h]; rfl
theorem any_none {p : List AV → Bool} {l : List (List AV)} {A B : Ans} : (match idxFrom p l 0 with | some _ => A | none => B) = branch (.bool (l.any p)) A B := by
  rw [← idxFrom_isSome (i := 0)]
  cases idxFrom p l 0 <;> rfl

theorem g0_all (F : Nat) (K : Cont) (b : Br) (y z : AV) (st : St) (hb : ∀ r ∈ b.list, isRow tCd r = true) (hl : b.list.length ≤ 100) (hF : 100 < F) :
    loopRun (f8_l0.run F) [0, 1, 2, 7] K F (Env.mk 72 [(0, Br.av' 5 b), (1, y), (2, z), (7, .int .i64 0)]) st = branch (.bool (b.list.any g0)) (K .ret (Env.mk 72 [(6, .bool true)]) st) (K (.exit 0) (Env.mk 72 [(1, y), (2, z)]) st) := by
  cases b with
  | nil =>
    cases F with
    | zero => omega
    | succ F => exact g0_nil (F + 1) F K y z st
  | sl f l =>
    simp only [Br.list] at hb hl ⊢
    have := find_loop (R := fun m i => loopRun (f8_l0.run F) [0, 1, 2, 7] K m (Env.mk 72 [(0, .sl 5 f l), (1, y), (2, z), (7, .int .i64 (i : Nat))]) st)
      (l := l) (p := g0) (ok := fun r => (LD.one LT.str).is (List.drop 2 (List.drop 2 r)) && (LD.one LT.str).is (List.drop 0 r)) (found := fun _ => K .ret (Env.mk 72 [(6, .bool true)]) st) (out := K (.exit 0) (Env.mk 72 [(1, y), (2, z)]) st)
      (fun m i hi => by
        rw [show m + 1 = m.succ from rfl, g0_round]
        by_cases hlt : i < l.length
        · have hr := hb _ (List.getElem_mem hlt)
          rw [show IntKind.i64.wrap ((i : Int) + 1) = ((i + 1 : Nat) : Int) by rw [wrapS (by omega) (by omega)]; omega]
          rw [rowAt_nat hlt, branch_of (cd_s1 hr), branch_of (cd_s0 hr), branch_of (show ((LD.one LT.str).is (List.drop 2 (List.drop 2 l[i])) && (LD.one LT.str).is (List.drop 0 l[i])) = true by rw [cd_s1 hr, cd_s0 hr]; rfl)]
          simp only [g0, inR_nat hlt, branch_true]
          generalize decide (((hdS (List.drop 2 (List.drop 2 l[i]))).size : Int) > 500) = A
          generalize decide (((hdS (List.drop 0 l[i])).size : Int) > 500) = B
          cases A <;> cases B <;> rfl
        · rw [branch_not (decide_eq_false (by omega)), branch_not (decide_eq_false (by omega))])
      (fun r hr => by simp only [cd_s1 (hb r hr), cd_s0 (hb r hr), Bool.and_self]) l.length 0 F (by omega) (by omega)
    rw [List.drop_zero] at this
    exact this.trans any_none
theorem g1_all (F : Nat) (K : Cont) (b : Br) (z : AV) (st : St) (hb : ∀ r ∈ b.list, isCol r = true) (hl : b.list.length ≤ 100) (hF : 100 < F) :
    loopRun (f8_l1.run F) [1, 2, 8] K F (Env.mk 72 [(1, Br.av' 3 b), (2, z), (8, .int .i64 0)]) st = branch (.bool (b.list.any g1)) (K .ret (Env.mk 72 [(6, .bool true)]) st) (K (.exit 2) (Env.mk 72 [(2, z)]) st) := by
  cases b with
  | nil =>
    cases F with
    | zero => omega
    | succ F => exact g1_nil (F + 1) F K z st
  | sl f l =>
    simp only [Br.list] at hb hl ⊢
    have := find_loop (R := fun m i => loopRun (f8_l1.run F) [1, 2, 8] K m (Env.mk 72 [(1, .sl 3 f l), (2, z), (8, .int .i64 (i : Nat))]) st)
      (l := l) (p := g1) (ok := fun r => (LD.one LT.str).is (List.drop 0 r)) (found := fun _ => K .ret (Env.mk 72 [(6, .bool true)]) st) (out := K (.exit 2) (Env.mk 72 [(2, z)]) st)
      (fun m i hi => by
        rw [show m + 1 = m.succ from rfl, g1_round]
        by_cases hlt : i < l.length
        · rw [show IntKind.i64.wrap ((i : Int) + 1) = ((i + 1 : Nat) : Int) by rw [wrapS (by omega) (by omega)]; omega]
          rfl
        · rw [branch_not (decide_eq_false (by omega)), branch_not (decide_eq_false (by omega))])
      (fun r hr => col_s0 (hb r hr)) l.length 0 F (by omega) (by omega)
    rw [List.drop_zero] at this
    exact this.trans any_none
theorem g2_all (F : Nat) (K : Cont) (b : Br) (st : St) (hb : ∀ r ∈ b.list, isRow tVa r = true) (hl : b.list.length ≤ 100) (hF : 100 < F) :
    loopRun (f8_l2.run F) [2, 9] K F (Env.mk 72 [(2, Br.av' 3 b), (9, .int .i64 0)]) st = branch (.bool (b.list.any g2)) (K .ret (Env.mk 72 [(6, .bool true)]) st) (K (.exit 4) (Env.mk 72 []) st) := by
  cases b with
  | nil =>
    cases F with
    | zero => omega
    | succ F => exact g2_nil (F + 1) F K st
  | sl f l =>
    simp only [Br.list] at hb hl ⊢
    have := find_loop (R := fun m i => loopRun (f8_l2.run F) [2, 9] K m (Env.mk 72 [(2, .sl 3 f l), (9, .int .i64 (i : Nat))]) st)
      (l := l) (p := g2) (ok := fun r => (LD.one LT.str).is (List.drop 2 r)) (found := fun _ => K .ret (Env.mk 72 [(6, .bool true)]) st) (out := K (.exit 4) (Env.mk 72 []) st)
      (fun m i hi => by
        rw [show m + 1 = m.succ from rfl, g2_round]
        by_cases hlt : i < l.length
        · rw [show IntKind.i64.wrap ((i : Int) + 1) = ((i + 1 : Nat) : Int) by rw [wrapS (by omega) (by omega)]; omega]
          rfl
        · rw [branch_not (decide_eq_false (by omega)), branch_not (decide_eq_false (by omega))])
      (fun r hr => va_s2 (hb r hr)) l.length 0 F (by omega) (by omega)
    rw [List.drop_zero] at this
    exact this.trans any_none
/-- Too many of something? -/
def many (b : Br) : Bool := decide ((b.list.length : Int) > 100)
def greatF (a : Tri) : Bool := many a.1 || (many a.2.1 || (many a.2.2 || (a.1.list.any g0 || (a.2.1.list.any g1 || a.2.2.list.any g2))))
/-- Rows that are right, however many. -/
def triRows (a : Tri) : Bool := a.1.list.all (isRow tCd) && (a.2.1.list.all isCol && a.2.2.list.all (isRow tVa))
theorem gr_run (a : Tri) (F : Nat) (st : St) : f8.run F.succ (triA a) st = branch (.bool (many a.1)) (some (.ret (.bool true), st)) (branch (.bool (many a.2.1)) (some (.ret (.bool true), st)) (branch (.bool (many a.2.2)) (some (.ret (.bool true), st))
    (loopRun (f8_l0.run F.succ) [0, 1, 2, 7] (Cont.block 0 (Cont.then (f8_r2.run F.succ (f8.leaveK Fun.done)) (f8.leaveK Fun.done))) F.succ (Env.mk 72 [(0, Br.av' 5 a.1), (1, Br.av' 3 a.2.1), (2, Br.av' 3 a.2.2), (7, .int .i64 0)]) st))) := by
  obtain ⟨x, y, z⟩ := a
  cases x <;> cases y <;> cases z
  · exact gr_nnn _ _
  · exact gr_nns _ _ _ _
  · exact gr_nsn _ _ _ _
  · exact gr_nss _ _ _ _ _ _
  · exact gr_snn _ _ _ _
  · exact gr_sns _ _ _ _ _ _
  · exact gr_ssn _ _ _ _ _ _
  · exact gr_sss _ _ _ _ _ _ _ _
theorem great_spec (a : Tri) (h : triRows a = true) (st : St) : f8.run 101 (triA a) st = some (.ret (.bool (greatF a)), st) := by
  simp only [triRows, Bool.and_eq_true] at h
  obtain ⟨h1, h2, h3⟩ := h
  rw [show 101 = Nat.succ 100 from rfl, gr_run, greatF]
  have hm : ∀ b, many b = false → b.list.length ≤ 100 := fun b h => by
    have := of_decide_eq_false h
    omega
  cases m1 : many a.1 with
  | true => rfl
  | false =>
    cases m2 : many a.2.1 with
    | true => rfl
    | false =>
      cases m3 : many a.2.2 with
      | true => rfl
      | false =>
        rw [branch_not rfl, branch_not rfl, branch_not rfl, g0_all _ _ _ _ _ _ (List.all_eq_true.mp h1) (hm _ m1) (by omega), g0_ret, g0_out, g1_all _ _ _ _ _ (List.all_eq_true.mp h2) (hm _ m2) (by omega), g1_ret, g1_out, g2_all _ _ _ _ (List.all_eq_true.mp h3) (hm _ m3) (by omega), g2_ret, g2_out]
        cases a.1.list.any g0 <;> cases a.2.1.list.any g1 <;> cases a.2.2.list.any g2 <;> rfl
noncomputable def p8 : POrc Try.prog := (f8.pureIf dTri triA dTri_enc triRows (fun a => .bool (greatF a)) (fun a _ => ⟨rfl, fun _ _ => trivial⟩) fun a h => ⟨101, fun st => great_spec a h st⟩).fz
theorem p8_nat : p8.Nat := POrc.fz_nat pureIf_nat
noncomputable def p7 : POrc Try.prog := f7.flatIf dec0 (fun _ => []) dec0_enc (fun _ => true) (fun _ => .bool true) (fun _ => trivial) (fun _ => trivial) fun _ _ => ⟨10, _, alive_run⟩
end Go.Proofs.Ytnmglmkkeghnaaa.V

/- The functions' pieces, as told by gen.py. -/
set_option linter.unusedVariables false
set_option maxRecDepth 20000
namespace Go.Proofs.Ytnmglmkkeghnaaa.V
open Go Go.V Go.RowKit


/-! ### 3: interlock/interlocklaw12.CondSides (25, 26, 28); results 6; slots: 0 c, 1 cols, 2 r, 3 c, 4 cols, 5 r, 7 o, 8 a, 9 b, 10 l -/
noncomputable def f3_b : Sim Try.prog :=
  (.seq (.live [1, 2, 3] (.region 0 [
    ⟨(opBoxF (some 3) 25 (.tmp 0) 0 "law.go:69" #[]).op, none⟩,
    ⟨(opAssign (some 6) (.const (Value.bool false)) 4 "law.go:69" #[]).op, none⟩
  ] (by kernel_rfl)))
  (.seq (.seq (.live [1, 2, 3, 12] (.region 1 [
    ⟨(opCallP p7 (some 11) [] #[] 4 "law.go:70" #[]).op, none⟩,
    ⟨(opNot (some 12) 4 (.tmp 11) 4 "law.go:70" #[{ on := 0, ground := Ground.data }]).op, none⟩
  ] (by kernel_rfl)))
  (.cond (.tmp 12)
    (.seq (.live [6] (.region 2 [
      ⟨(opAssign (some 6) (.const (Value.bool false)) 4 "law.go:71" #[]).op, none⟩
    ] (by kernel_rfl)))
    (.live [6] .ret))
    .skip))
  (.seq (.seq (.live [1, 2, 3, 17] (.region 3 [
    ⟨(opLoadT (.agg [.str, (.int .i64), (.int .i64), (.int .i64), .str]) (some 13) 25 (.tmp 3) d25 ud25 5 sz25 (by kernel_rfl) 25 "law.go:73" #[]).op, none⟩,
    ⟨(opBuildSlice (some 14) 31 1 [(0, (.tmp 13))] 25 5 56 (.agg #[(.string ⟨#[]⟩), (.int .i64 0), (.int .i64 0), (.int .i64 0), (.string ⟨#[]⟩)]) el31 (by kernel_rfl) (by decide) 31 "law.go:73" #[{ on := 0, ground := Ground.data }]).op, none⟩,
    ⟨(opMove (some 15) (.tmp 1) 26 "law.go:73" #[]).op, none⟩,
    ⟨(opMove (some 16) (.tmp 2) 28 "law.go:73" #[]).op, none⟩,
    ⟨(opCallP p8 (some 17) [(.tmp 14), (.tmp 15), (.tmp 16)] #[31, 26, 28] 4 "law.go:73" #[{ on := 1, ground := Ground.data }, { on := 2, ground := Ground.data }, { on := 3, ground := Ground.data }]).op, none⟩
  ] (by kernel_rfl)))
  (.cond (.tmp 17)
    (.seq (.live [6] (.region 4 [
      ⟨(opAssign (some 6) (.const (Value.bool true)) 4 "law.go:74" #[]).op, none⟩
    ] (by kernel_rfl)))
    (.live [6] .ret))
    .skip))
  (.seq (.live [1, 2, 3, 7] (.region 5 [
    ⟨(opLoadT (.agg [.str, (.int .i64), (.int .i64), (.int .i64), .str]) (some 18) 25 (.tmp 3) d25 ud25 5 sz25 (by kernel_rfl) 25 "law.go:76" #[]).op, none⟩,
    ⟨(opAlloc (some 7) 25 (.agg #[(.string ⟨#[]⟩), (.int .i64 0), (.int .i64 0), (.int .i64 0), (.string ⟨#[]⟩)]) ze25 0 "law.go:76" #[]).op, none⟩,
    ⟨(opStore none 25 (.tmp 7) (.tmp 18) 5 sz25 0 "law.go:76" #[{ on := 1, ground := Ground.data }, { on := 0, ground := Ground.data }, { on := 0, ground := Ground.phase }, { on := 1, ground := Ground.phase }]).op, none⟩
  ] (by kernel_rfl)))
  (.seq (.seq (.live [1, 2, 3, 7, 20] (.region 6 [
    ⟨(opFieldAddr (some 19) 25 (.tmp 3) 1 1 1 false fl25_1 (by decide) 0 "law.go:77" #[]).op, none⟩,
    ⟨(opLoadT (.one (.int .i64)) (some 20) 3 (.tmp 19) (.int .i64) Try.underlying3 1 sz3 (by kernel_rfl) 3 "law.go:77" #[{ on := 0, ground := Ground.data }]).op, none⟩
  ] (by kernel_rfl)))
  (.block 0 (.seq (.live [1, 2, 3, 7, 20, 21] (.region 7 [
      ⟨(opBin (some 22) .eql 3 (.tmp 20) (.const (Value.int IntKind.i64 1)) 3 4 "law.go:78" #[]).op, none⟩,
      ⟨(opAssign (some 21) (.tmp 22) 4 "law.go:78" #[{ on := 0, ground := Ground.data }]).op, none⟩
    ] (by kernel_rfl)))
    (.cond (.tmp 21)
      (.live [1, 2, 3, 7] (.region 8 [
        ⟨(opFieldAddr (some 23) 25 (.tmp 7) 1 1 1 false fl25_1 (by decide) 0 "law.go:79" #[]).op, none⟩,
        ⟨(opStore none 3 (.tmp 23) (.const (Value.int IntKind.i64 2)) 1 sz3 0 "law.go:79" #[{ on := 0, ground := Ground.data }]).op, none⟩
      ] (by kernel_rfl)))
      (.seq (.live [1, 2, 3, 7, 20, 24] (.region 9 [
        ⟨(opBin (some 25) .eql 3 (.tmp 20) (.const (Value.int IntKind.i64 2)) 3 4 "law.go:80" #[]).op, none⟩,
        ⟨(opAssign (some 24) (.tmp 25) 4 "law.go:80" #[{ on := 0, ground := Ground.data }]).op, none⟩
      ] (by kernel_rfl)))
      (.cond (.tmp 24)
        (.live [1, 2, 3, 7] (.region 10 [
          ⟨(opFieldAddr (some 26) 25 (.tmp 7) 1 1 1 false fl25_1 (by decide) 0 "law.go:81" #[]).op, none⟩,
          ⟨(opStore none 3 (.tmp 26) (.const (Value.int IntKind.i64 1)) 1 sz3 0 "law.go:81" #[{ on := 0, ground := Ground.data }]).op, none⟩
        ] (by kernel_rfl)))
        (.seq (.live [1, 2, 3, 7, 20, 27] (.region 11 [
          ⟨(opBin (some 28) .eql 3 (.tmp 20) (.const (Value.int IntKind.i64 5)) 3 4 "law.go:82" #[]).op, none⟩,
          ⟨(opAssign (some 27) (.tmp 28) 4 "law.go:82" #[{ on := 0, ground := Ground.data }]).op, none⟩
        ] (by kernel_rfl)))
        (.cond (.tmp 27)
          (.live [1, 2, 3, 7] (.region 12 [
            ⟨(opFieldAddr (some 29) 25 (.tmp 7) 1 1 1 false fl25_1 (by decide) 0 "law.go:83" #[]).op, none⟩,
            ⟨(opStore none 3 (.tmp 29) (.const (Value.int IntKind.i64 6)) 1 sz3 0 "law.go:83" #[{ on := 0, ground := Ground.data }]).op, none⟩
          ] (by kernel_rfl)))
          (.seq (.live [1, 2, 3, 7, 30] (.region 13 [
            ⟨(opBin (some 31) .eql 3 (.tmp 20) (.const (Value.int IntKind.i64 6)) 3 4 "law.go:84" #[]).op, none⟩,
            ⟨(opAssign (some 30) (.tmp 31) 4 "law.go:84" #[{ on := 0, ground := Ground.data }]).op, none⟩
          ] (by kernel_rfl)))
          (.cond (.tmp 30)
            (.live [1, 2, 3, 7] (.region 14 [
              ⟨(opFieldAddr (some 32) 25 (.tmp 7) 1 1 1 false fl25_1 (by decide) 0 "law.go:85" #[]).op, none⟩,
              ⟨(opStore none 3 (.tmp 32) (.const (Value.int IntKind.i64 5)) 1 sz3 0 "law.go:85" #[{ on := 0, ground := Ground.data }]).op, none⟩
            ] (by kernel_rfl)))
            .skip))))))))))
  (.seq (.live [1, 2, 3, 7, 8] (.region 15 [
    ⟨(opLoadT (.agg [.str, (.int .i64), (.int .i64), (.int .i64), .str]) (some 33) 25 (.tmp 3) d25 ud25 5 sz25 (by kernel_rfl) 25 "law.go:87" #[]).op, none⟩,
    ⟨(opMove (some 34) (.tmp 1) 26 "law.go:87" #[]).op, none⟩,
    ⟨(opMove (some 35) (.tmp 2) 28 "law.go:87" #[]).op, none⟩,
    ⟨(opCallP p9 (some 36) [(.tmp 33), (.tmp 34), (.tmp 35)] #[25, 26, 28] 3 "law.go:87" #[{ on := 0, ground := Ground.data }, { on := 1, ground := Ground.data }, { on := 2, ground := Ground.data }]).op, none⟩,
    ⟨(opAssign (some 8) (.tmp 36) 3 "law.go:87" #[{ on := 3, ground := Ground.data }, { on := 3, ground := Ground.chain }, { on := 0, ground := Ground.phase }, { on := 1, ground := Ground.phase }, { on := 2, ground := Ground.phase }, { on := 3, ground := Ground.phase }]).op, none⟩
  ] (by kernel_rfl)))
  (.seq (.live [1, 2, 3, 7, 8, 9] (.region 16 [
    ⟨(opLoadT (.agg [.str, (.int .i64), (.int .i64), (.int .i64), .str]) (some 37) 25 (.tmp 7) d25 ud25 5 sz25 (by kernel_rfl) 25 "law.go:88" #[]).op, none⟩,
    ⟨(opMove (some 38) (.tmp 1) 26 "law.go:88" #[]).op, none⟩,
    ⟨(opMove (some 39) (.tmp 2) 28 "law.go:88" #[]).op, none⟩,
    ⟨(opCallP p9 (some 40) [(.tmp 37), (.tmp 38), (.tmp 39)] #[25, 26, 28] 3 "law.go:88" #[{ on := 0, ground := Ground.data }, { on := 1, ground := Ground.data }, { on := 2, ground := Ground.data }]).op, none⟩,
    ⟨(opAssign (some 9) (.tmp 40) 3 "law.go:88" #[{ on := 3, ground := Ground.data }, { on := 3, ground := Ground.chain }, { on := 0, ground := Ground.phase }, { on := 1, ground := Ground.phase }, { on := 2, ground := Ground.phase }, { on := 3, ground := Ground.phase }]).op, none⟩
  ] (by kernel_rfl)))
  (.seq (.seq (.live [1, 2, 3, 8, 68] (.region 17 [
    ⟨(opFieldAddr (some 41) 25 (.tmp 7) 1 1 1 false fl25_1 (by decide) 0 "law.go:89" #[]).op, none⟩,
    ⟨(opLoadT (.one (.int .i64)) (some 42) 3 (.tmp 41) (.int .i64) Try.underlying3 1 sz3 (by kernel_rfl) 3 "law.go:89" #[{ on := 0, ground := Ground.data }]).op, none⟩,
    ⟨(opFieldAddr (some 43) 25 (.tmp 3) 1 1 1 false fl25_1 (by decide) 0 "law.go:89" #[]).op, none⟩,
    ⟨(opLoadT (.one (.int .i64)) (some 44) 3 (.tmp 43) (.int .i64) Try.underlying3 1 sz3 (by kernel_rfl) 3 "law.go:89" #[{ on := 2, ground := Ground.data }]).op, none⟩,
    ⟨(opBin (some 45) .neq 3 (.tmp 42) (.tmp 44) 3 4 "law.go:89" #[{ on := 1, ground := Ground.data }, { on := 3, ground := Ground.data }]).op, none⟩,
    ⟨(opMove (some 46) (.tmp 45) 4 "law.go:89" #[{ on := 4, ground := Ground.data }]).op, none⟩,
    ⟨(opMove (some 47) (.tmp 8) 3 "law.go:89" #[{ on := 5, ground := Ground.guard }]).op, (some (5, 46, true))⟩,
    ⟨(opBin (some 48) .lss 3 (.tmp 47) (.const (Value.int IntKind.i64 0)) 3 4 "law.go:89" #[{ on := 6, ground := Ground.data }, { on := 5, ground := Ground.guard }]).op, (some (5, 46, true))⟩,
    ⟨(opMove (some 49) (.tmp 9) 3 "law.go:89" #[{ on := 5, ground := Ground.guard }]).op, (some (5, 46, true))⟩,
    ⟨(opBin (some 50) .lss 3 (.tmp 49) (.const (Value.int IntKind.i64 0)) 3 4 "law.go:89" #[{ on := 8, ground := Ground.data }, { on := 5, ground := Ground.guard }]).op, (some (5, 46, true))⟩,
    ⟨(opNe (some 51) 4 .bool Try.underlying4 (.tmp 48) (.tmp 50) (.inr rfl) 4 4 "law.go:89" #[{ on := 7, ground := Ground.data }, { on := 9, ground := Ground.data }, { on := 5, ground := Ground.guard }]).op, (some (5, 46, true))⟩,
    ⟨(opPick (some 52) (.tmp 46) (.tmp 51) (.const (Value.bool false)) 4 "law.go:89" #[{ on := 5, ground := Ground.data }, { on := 10, ground := Ground.data }]).op, none⟩,
    ⟨(opMove (some 53) (.tmp 52) 4 "law.go:89" #[{ on := 11, ground := Ground.data }, { on := 5, ground := Ground.chain }]).op, none⟩,
    ⟨(opFieldAddr (some 54) 25 (.tmp 7) 1 1 1 false fl25_1 (by decide) 0 "law.go:89" #[{ on := 12, ground := Ground.guard }]).op, (some (12, 53, false))⟩,
    ⟨(opLoadT (.one (.int .i64)) (some 55) 3 (.tmp 54) (.int .i64) Try.underlying3 1 sz3 (by kernel_rfl) 3 "law.go:89" #[{ on := 13, ground := Ground.data }, { on := 12, ground := Ground.guard }]).op, (some (12, 53, false))⟩,
    ⟨(opFieldAddr (some 56) 25 (.tmp 3) 1 1 1 false fl25_1 (by decide) 0 "law.go:89" #[{ on := 12, ground := Ground.guard }]).op, (some (12, 53, false))⟩,
    ⟨(opLoadT (.one (.int .i64)) (some 57) 3 (.tmp 56) (.int .i64) Try.underlying3 1 sz3 (by kernel_rfl) 3 "law.go:89" #[{ on := 15, ground := Ground.data }, { on := 12, ground := Ground.guard }]).op, (some (12, 53, false))⟩,
    ⟨(opBin (some 58) .neq 3 (.tmp 55) (.tmp 57) 3 4 "law.go:89" #[{ on := 14, ground := Ground.data }, { on := 16, ground := Ground.data }, { on := 12, ground := Ground.guard }]).op, (some (12, 53, false))⟩,
    ⟨(opMove (some 59) (.tmp 58) 4 "law.go:89" #[{ on := 17, ground := Ground.data }, { on := 12, ground := Ground.chain }, { on := 12, ground := Ground.guard }]).op, (some (12, 53, false))⟩,
    ⟨(opMove (some 60) (.tmp 8) 3 "law.go:89" #[{ on := 18, ground := Ground.guard }]).op, (some (18, 59, true))⟩,
    ⟨(opBin (some 61) .geq 3 (.tmp 60) (.const (Value.int IntKind.i64 0)) 3 4 "law.go:89" #[{ on := 19, ground := Ground.data }, { on := 18, ground := Ground.guard }]).op, (some (18, 59, true))⟩,
    ⟨(opPick (some 62) (.tmp 59) (.tmp 61) (.const (Value.bool false)) 4 "law.go:89" #[{ on := 18, ground := Ground.data }, { on := 20, ground := Ground.data }, { on := 12, ground := Ground.guard }]).op, (some (12, 53, false))⟩,
    ⟨(opMove (some 63) (.tmp 62) 4 "law.go:89" #[{ on := 21, ground := Ground.data }, { on := 18, ground := Ground.chain }, { on := 12, ground := Ground.guard }]).op, (some (12, 53, false))⟩,
    ⟨(opMove (some 64) (.tmp 8) 3 "law.go:89" #[{ on := 22, ground := Ground.guard }]).op, (some (22, 63, true))⟩,
    ⟨(opMove (some 65) (.tmp 9) 3 "law.go:89" #[{ on := 22, ground := Ground.guard }]).op, (some (22, 63, true))⟩,
    ⟨(opBin (some 66) .eql 3 (.tmp 64) (.tmp 65) 3 4 "law.go:89" #[{ on := 23, ground := Ground.data }, { on := 24, ground := Ground.data }, { on := 22, ground := Ground.guard }]).op, (some (22, 63, true))⟩,
    ⟨(opPick (some 67) (.tmp 63) (.tmp 66) (.const (Value.bool false)) 4 "law.go:89" #[{ on := 22, ground := Ground.data }, { on := 25, ground := Ground.data }, { on := 12, ground := Ground.guard }]).op, (some (12, 53, false))⟩,
    ⟨(opPick (some 68) (.tmp 53) (.const (Value.bool true)) (.tmp 67) 4 "law.go:89" #[{ on := 12, ground := Ground.data }, { on := 26, ground := Ground.data }]).op, none⟩
  ] (by kernel_rfl)))
  (.cond (.tmp 68)
    (.seq (.live [6] (.region 18 [
      ⟨(opAssign (some 6) (.const (Value.bool false)) 4 "law.go:90" #[]).op, none⟩
    ] (by kernel_rfl)))
    (.live [6] .ret))
    .skip))
  (.seq (.live [1, 2, 8, 10] (.region 19 [
    ⟨(opLoadT (.agg [.str, (.int .i64), (.int .i64), (.int .i64), .str]) (some 69) 25 (.tmp 3) d25 ud25 5 sz25 (by kernel_rfl) 25 "law.go:92" #[]).op, none⟩,
    ⟨(opBuildSlice (some 70) 31 1 [(0, (.tmp 69))] 25 5 56 (.agg #[(.string ⟨#[]⟩), (.int .i64 0), (.int .i64 0), (.int .i64 0), (.string ⟨#[]⟩)]) el31 (by kernel_rfl) (by decide) 31 "law.go:92" #[{ on := 0, ground := Ground.data }]).op, none⟩,
    ⟨(opAssign (some 10) (.tmp 70) 31 "law.go:92" #[{ on := 1, ground := Ground.data }, { on := 0, ground := Ground.phase }, { on := 1, ground := Ground.phase }]).op, none⟩
  ] (by kernel_rfl)))
  (.seq (.live [6] (.region 20 [
    ⟨(opMove (some 71) (.tmp 10) 31 "law.go:93" #[]).op, none⟩,
    ⟨(opMove (some 72) (.tmp 1) 26 "law.go:93" #[]).op, none⟩,
    ⟨(opMove (some 73) (.tmp 2) 28 "law.go:93" #[]).op, none⟩,
    ⟨(opCallP p10 (some 74) [(.tmp 71), (.tmp 72), (.tmp 73)] #[31, 26, 28] 4 "law.go:93" #[{ on := 0, ground := Ground.data }, { on := 1, ground := Ground.data }, { on := 2, ground := Ground.data }]).op, none⟩,
    ⟨(opMove (some 75) (.tmp 74) 4 "law.go:93" #[{ on := 3, ground := Ground.data }, { on := 3, ground := Ground.chain }]).op, none⟩,
    ⟨(opMove (some 76) (.tmp 10) 31 "law.go:93" #[{ on := 4, ground := Ground.guard }]).op, (some (4, 75, true))⟩,
    ⟨(opMove (some 77) (.tmp 1) 26 "law.go:93" #[{ on := 4, ground := Ground.guard }]).op, (some (4, 75, true))⟩,
    ⟨(opMove (some 78) (.tmp 2) 28 "law.go:93" #[{ on := 4, ground := Ground.guard }]).op, (some (4, 75, true))⟩,
    ⟨(opCallP p11 (some 79) [(.tmp 76), (.tmp 77), (.tmp 78)] #[31, 26, 28] 4 "law.go:93" #[{ on := 5, ground := Ground.data }, { on := 6, ground := Ground.data }, { on := 7, ground := Ground.data }, { on := 4, ground := Ground.chain }, { on := 4, ground := Ground.guard }]).op, (some (4, 75, true))⟩,
    ⟨(opPick (some 80) (.tmp 75) (.tmp 79) (.const (Value.bool false)) 4 "law.go:93" #[{ on := 4, ground := Ground.data }, { on := 8, ground := Ground.data }]).op, none⟩,
    ⟨(opNot (some 81) 4 (.tmp 80) 4 "law.go:93" #[{ on := 9, ground := Ground.data }]).op, none⟩,
    ⟨(opMove (some 82) (.tmp 81) 4 "law.go:93" #[{ on := 10, ground := Ground.data }, { on := 8, ground := Ground.chain }]).op, none⟩,
    ⟨(opMove (some 83) (.tmp 10) 31 "law.go:93" #[{ on := 11, ground := Ground.guard }]).op, (some (11, 82, true))⟩,
    ⟨(opMove (some 84) (.tmp 1) 26 "law.go:93" #[{ on := 11, ground := Ground.guard }]).op, (some (11, 82, true))⟩,
    ⟨(opMove (some 85) (.tmp 2) 28 "law.go:93" #[{ on := 11, ground := Ground.guard }]).op, (some (11, 82, true))⟩,
    ⟨(opCallP p10 (some 86) [(.tmp 83), (.tmp 84), (.tmp 85)] #[31, 26, 28] 4 "law.go:93" #[{ on := 12, ground := Ground.data }, { on := 13, ground := Ground.data }, { on := 14, ground := Ground.data }, { on := 11, ground := Ground.chain }, { on := 11, ground := Ground.guard }]).op, (some (11, 82, true))⟩,
    ⟨(opMove (some 87) (.tmp 8) 3 "law.go:93" #[{ on := 11, ground := Ground.guard }]).op, (some (11, 82, true))⟩,
    ⟨(opBin (some 88) .eql 3 (.tmp 87) (.const (Value.int IntKind.i64 1)) 3 4 "law.go:93" #[{ on := 16, ground := Ground.data }, { on := 11, ground := Ground.guard }]).op, (some (11, 82, true))⟩,
    ⟨(opEq (some 89) 4 .bool Try.underlying4 (.tmp 86) (.tmp 88) (.inr rfl) 4 4 "law.go:93" #[{ on := 15, ground := Ground.data }, { on := 17, ground := Ground.data }, { on := 11, ground := Ground.guard }]).op, (some (11, 82, true))⟩,
    ⟨(opPick (some 90) (.tmp 82) (.tmp 89) (.const (Value.bool false)) 4 "law.go:93" #[{ on := 11, ground := Ground.data }, { on := 18, ground := Ground.data }]).op, none⟩,
    ⟨(opMove (some 91) (.tmp 90) 4 "law.go:93" #[{ on := 19, ground := Ground.data }, { on := 15, ground := Ground.chain }]).op, none⟩,
    ⟨(opMove (some 92) (.tmp 10) 31 "law.go:93" #[{ on := 20, ground := Ground.guard }]).op, (some (20, 91, true))⟩,
    ⟨(opMove (some 93) (.tmp 1) 26 "law.go:93" #[{ on := 20, ground := Ground.guard }]).op, (some (20, 91, true))⟩,
    ⟨(opMove (some 94) (.tmp 2) 28 "law.go:93" #[{ on := 20, ground := Ground.guard }]).op, (some (20, 91, true))⟩,
    ⟨(opCallP p11 (some 95) [(.tmp 92), (.tmp 93), (.tmp 94)] #[31, 26, 28] 4 "law.go:93" #[{ on := 21, ground := Ground.data }, { on := 22, ground := Ground.data }, { on := 23, ground := Ground.data }, { on := 20, ground := Ground.chain }, { on := 20, ground := Ground.guard }]).op, (some (20, 91, true))⟩,
    ⟨(opMove (some 96) (.tmp 8) 3 "law.go:93" #[{ on := 20, ground := Ground.guard }]).op, (some (20, 91, true))⟩,
    ⟨(opBin (some 97) .eql 3 (.tmp 96) (.const (Value.int IntKind.i64 0)) 3 4 "law.go:93" #[{ on := 25, ground := Ground.data }, { on := 20, ground := Ground.guard }]).op, (some (20, 91, true))⟩,
    ⟨(opEq (some 98) 4 .bool Try.underlying4 (.tmp 95) (.tmp 97) (.inr rfl) 4 4 "law.go:93" #[{ on := 24, ground := Ground.data }, { on := 26, ground := Ground.data }, { on := 20, ground := Ground.guard }]).op, (some (20, 91, true))⟩,
    ⟨(opPick (some 99) (.tmp 91) (.tmp 98) (.const (Value.bool false)) 4 "law.go:93" #[{ on := 20, ground := Ground.data }, { on := 27, ground := Ground.data }]).op, none⟩,
    ⟨(opAssign (some 6) (.tmp 99) 4 "law.go:93" #[{ on := 28, ground := Ground.data }, { on := 24, ground := Ground.chain }, { on := 0, ground := Ground.phase }, { on := 1, ground := Ground.phase }, { on := 2, ground := Ground.phase }, { on := 3, ground := Ground.phase }, { on := 4, ground := Ground.phase }, { on := 5, ground := Ground.phase }, { on := 6, ground := Ground.phase }, { on := 7, ground := Ground.phase }, { on := 8, ground := Ground.phase }, { on := 9, ground := Ground.phase }, { on := 10, ground := Ground.phase }, { on := 11, ground := Ground.phase }, { on := 12, ground := Ground.phase }, { on := 13, ground := Ground.phase }, { on := 14, ground := Ground.phase }, { on := 15, ground := Ground.phase }, { on := 16, ground := Ground.phase }, { on := 17, ground := Ground.phase }, { on := 18, ground := Ground.phase }, { on := 19, ground := Ground.phase }, { on := 20, ground := Ground.phase }, { on := 21, ground := Ground.phase }, { on := 22, ground := Ground.phase }, { on := 23, ground := Ground.phase }, { on := 24, ground := Ground.phase }, { on := 25, ground := Ground.phase }, { on := 26, ground := Ground.phase }, { on := 27, ground := Ground.phase }, { on := 28, ground := Ground.phase }]).op, none⟩
  ] (by kernel_rfl)))
  (.live [6] .ret)))))))))))

noncomputable def f3 : Fun Try.prog where
  id := 3
  fn := Try.f3
  hf := Try.func3
  hname := by kernel_rfl
  body := f3_b
  hbody := by kernel_rfl
  res := [rTmp 6]
  hres := by kernel_rfl
  n := 100
  hn := by kernel_rfl

end Go.Proofs.Ytnmglmkkeghnaaa.V
