/- The functions' pieces, as told by gen.py. -/
import Derived.Test.YtfifiepbfnkelaaME
set_option linter.unusedVariables false
set_option maxRecDepth 20000
namespace Go.Proofs.Ytfifiepbfnkelaa.V
open Go Go.V Go.RowKit


/-! ### 3: interlock/interlocklaw10.ModesTable (3, 3); results 4; slots: 0 a, 1 b, 2 a, 3 b -/
noncomputable def f3_b : Sim Try.prog :=
  (.seq (.live [0, 1] (.region 0 [
    ⟨(opAssign (some 4) (.const (Value.bool false)) 4 "law.go:17" #[]).op, none⟩
  ] (by kernel_rfl)))
  (.seq (.seq (.live [0, 1, 6] (.region 1 [
    ⟨(opCallP p8 (some 5) [] #[] 4 "law.go:18" #[]).op, none⟩,
    ⟨(opNot (some 6) 4 (.tmp 5) 4 "law.go:18" #[{ on := 0, ground := Ground.data }]).op, none⟩
  ] (by kernel_rfl)))
  (.cond (.tmp 6)
    (.seq (.live [4] (.region 2 [
      ⟨(opAssign (some 4) (.const (Value.bool false)) 4 "law.go:19" #[]).op, none⟩
    ] (by kernel_rfl)))
    (.live [4] .ret))
    .skip))
  (.seq (.live [4] (.region 3 [
    ⟨(opMove (some 7) (.tmp 0) 3 "law.go:21" #[]).op, none⟩,
    ⟨(opCallP p9 (some 8) [(.tmp 7)] #[3] 4 "law.go:21" #[{ on := 0, ground := Ground.data }]).op, none⟩,
    ⟨(opMove (some 9) (.tmp 0) 3 "law.go:21" #[]).op, none⟩,
    ⟨(opBin (some 10) .geq 3 (.tmp 9) (.const (Value.int IntKind.i64 1)) 3 4 "law.go:21" #[{ on := 2, ground := Ground.data }]).op, none⟩,
    ⟨(opMove (some 11) (.tmp 10) 4 "law.go:21" #[{ on := 3, ground := Ground.data }, { on := 1, ground := Ground.chain }]).op, none⟩,
    ⟨(opMove (some 12) (.tmp 0) 3 "law.go:21" #[{ on := 4, ground := Ground.guard }]).op, (some (4, 11, true))⟩,
    ⟨(opBin (some 13) .leq 3 (.tmp 12) (.const (Value.int IntKind.i64 8)) 3 4 "law.go:21" #[{ on := 5, ground := Ground.data }, { on := 4, ground := Ground.guard }]).op, (some (4, 11, true))⟩,
    ⟨(opPick (some 14) (.tmp 11) (.tmp 13) (.const (Value.bool false)) 4 "law.go:21" #[{ on := 4, ground := Ground.data }, { on := 6, ground := Ground.data }]).op, none⟩,
    ⟨(opEq (some 15) 4 .bool Try.underlying4 (.tmp 8) (.tmp 14) (.inr rfl) 4 4 "law.go:21" #[{ on := 1, ground := Ground.data }, { on := 7, ground := Ground.data }]).op, none⟩,
    ⟨(opMove (some 16) (.tmp 15) 4 "law.go:21" #[{ on := 8, ground := Ground.data }, { on := 4, ground := Ground.chain }]).op, none⟩,
    ⟨(opMove (some 17) (.tmp 0) 3 "law.go:21" #[{ on := 9, ground := Ground.guard }]).op, (some (9, 16, true))⟩,
    ⟨(opMove (some 18) (.tmp 1) 3 "law.go:21" #[{ on := 9, ground := Ground.guard }]).op, (some (9, 16, true))⟩,
    ⟨(opCallP p10 (some 19) [(.tmp 17), (.tmp 18)] #[3, 3] 4 "law.go:21" #[{ on := 10, ground := Ground.data }, { on := 11, ground := Ground.data }, { on := 9, ground := Ground.chain }, { on := 9, ground := Ground.guard }]).op, (some (9, 16, true))⟩,
    ⟨(opMove (some 20) (.tmp 0) 3 "law.go:21" #[{ on := 9, ground := Ground.guard }]).op, (some (9, 16, true))⟩,
    ⟨(opMove (some 21) (.tmp 1) 3 "law.go:21" #[{ on := 9, ground := Ground.guard }]).op, (some (9, 16, true))⟩,
    ⟨(opCallP p11 (some 22) [(.tmp 20), (.tmp 21)] #[3, 3] 4 "law.go:21" #[{ on := 13, ground := Ground.data }, { on := 14, ground := Ground.data }, { on := 12, ground := Ground.chain }, { on := 9, ground := Ground.guard }]).op, (some (9, 16, true))⟩,
    ⟨(opEq (some 23) 4 .bool Try.underlying4 (.tmp 19) (.tmp 22) (.inr rfl) 4 4 "law.go:21" #[{ on := 12, ground := Ground.data }, { on := 15, ground := Ground.data }, { on := 9, ground := Ground.guard }]).op, (some (9, 16, true))⟩,
    ⟨(opPick (some 24) (.tmp 16) (.tmp 23) (.const (Value.bool false)) 4 "law.go:21" #[{ on := 9, ground := Ground.data }, { on := 16, ground := Ground.data }]).op, none⟩,
    ⟨(opMove (some 25) (.tmp 24) 4 "law.go:21" #[{ on := 17, ground := Ground.data }, { on := 15, ground := Ground.chain }]).op, none⟩,
    ⟨(opMove (some 26) (.tmp 0) 3 "law.go:21" #[{ on := 18, ground := Ground.guard }]).op, (some (18, 25, true))⟩,
    ⟨(opMove (some 27) (.tmp 1) 3 "law.go:21" #[{ on := 18, ground := Ground.guard }]).op, (some (18, 25, true))⟩,
    ⟨(opCallP p12 (some 28) [(.tmp 26), (.tmp 27)] #[3, 3] 4 "law.go:21" #[{ on := 19, ground := Ground.data }, { on := 20, ground := Ground.data }, { on := 18, ground := Ground.chain }, { on := 18, ground := Ground.guard }]).op, (some (18, 25, true))⟩,
    ⟨(opMove (some 29) (.tmp 0) 3 "law.go:21" #[{ on := 18, ground := Ground.guard }]).op, (some (18, 25, true))⟩,
    ⟨(opMove (some 30) (.tmp 1) 3 "law.go:21" #[{ on := 18, ground := Ground.guard }]).op, (some (18, 25, true))⟩,
    ⟨(opCallP p13 (some 31) [(.tmp 29), (.tmp 30)] #[3, 3] 4 "law.go:21" #[{ on := 22, ground := Ground.data }, { on := 23, ground := Ground.data }, { on := 21, ground := Ground.chain }, { on := 18, ground := Ground.guard }]).op, (some (18, 25, true))⟩,
    ⟨(opEq (some 32) 4 .bool Try.underlying4 (.tmp 28) (.tmp 31) (.inr rfl) 4 4 "law.go:21" #[{ on := 21, ground := Ground.data }, { on := 24, ground := Ground.data }, { on := 18, ground := Ground.guard }]).op, (some (18, 25, true))⟩,
    ⟨(opPick (some 33) (.tmp 25) (.tmp 32) (.const (Value.bool false)) 4 "law.go:21" #[{ on := 18, ground := Ground.data }, { on := 25, ground := Ground.data }]).op, none⟩,
    ⟨(opMove (some 34) (.tmp 33) 4 "law.go:21" #[{ on := 26, ground := Ground.data }, { on := 24, ground := Ground.chain }]).op, none⟩,
    ⟨(opMove (some 35) (.tmp 0) 3 "law.go:21" #[{ on := 27, ground := Ground.guard }]).op, (some (27, 34, true))⟩,
    ⟨(opMove (some 36) (.tmp 1) 3 "law.go:21" #[{ on := 27, ground := Ground.guard }]).op, (some (27, 34, true))⟩,
    ⟨(opCallP p14 (some 37) [(.tmp 35), (.tmp 36)] #[3, 3] 3 "law.go:21" #[{ on := 28, ground := Ground.data }, { on := 29, ground := Ground.data }, { on := 27, ground := Ground.chain }, { on := 27, ground := Ground.guard }]).op, (some (27, 34, true))⟩,
    ⟨(opMove (some 38) (.tmp 0) 3 "law.go:21" #[{ on := 27, ground := Ground.guard }]).op, (some (27, 34, true))⟩,
    ⟨(opMove (some 39) (.tmp 1) 3 "law.go:21" #[{ on := 27, ground := Ground.guard }]).op, (some (27, 34, true))⟩,
    ⟨(opCallP p15 (some 40) [(.tmp 38), (.tmp 39)] #[3, 3] 3 "law.go:21" #[{ on := 31, ground := Ground.data }, { on := 32, ground := Ground.data }, { on := 30, ground := Ground.chain }, { on := 27, ground := Ground.guard }]).op, (some (27, 34, true))⟩,
    ⟨(opBin (some 41) .eql 3 (.tmp 37) (.tmp 40) 3 4 "law.go:21" #[{ on := 30, ground := Ground.data }, { on := 33, ground := Ground.data }, { on := 27, ground := Ground.guard }]).op, (some (27, 34, true))⟩,
    ⟨(opPick (some 42) (.tmp 34) (.tmp 41) (.const (Value.bool false)) 4 "law.go:21" #[{ on := 27, ground := Ground.data }, { on := 34, ground := Ground.data }]).op, none⟩,
    ⟨(opAssign (some 4) (.tmp 42) 4 "law.go:21" #[{ on := 35, ground := Ground.data }, { on := 33, ground := Ground.chain }, { on := 0, ground := Ground.phase }, { on := 1, ground := Ground.phase }, { on := 2, ground := Ground.phase }, { on := 3, ground := Ground.phase }, { on := 4, ground := Ground.phase }, { on := 5, ground := Ground.phase }, { on := 6, ground := Ground.phase }, { on := 7, ground := Ground.phase }, { on := 8, ground := Ground.phase }, { on := 9, ground := Ground.phase }, { on := 10, ground := Ground.phase }, { on := 11, ground := Ground.phase }, { on := 12, ground := Ground.phase }, { on := 13, ground := Ground.phase }, { on := 14, ground := Ground.phase }, { on := 15, ground := Ground.phase }, { on := 16, ground := Ground.phase }, { on := 17, ground := Ground.phase }, { on := 18, ground := Ground.phase }, { on := 19, ground := Ground.phase }, { on := 20, ground := Ground.phase }, { on := 21, ground := Ground.phase }, { on := 22, ground := Ground.phase }, { on := 23, ground := Ground.phase }, { on := 24, ground := Ground.phase }, { on := 25, ground := Ground.phase }, { on := 26, ground := Ground.phase }, { on := 27, ground := Ground.phase }, { on := 28, ground := Ground.phase }, { on := 29, ground := Ground.phase }, { on := 30, ground := Ground.phase }, { on := 31, ground := Ground.phase }, { on := 32, ground := Ground.phase }, { on := 33, ground := Ground.phase }, { on := 34, ground := Ground.phase }, { on := 35, ground := Ground.phase }]).op, none⟩
  ] (by kernel_rfl)))
  (.live [4] .ret))))

noncomputable def f3 : Fun Try.prog where
  id := 3
  fn := Try.f3
  hf := Try.func3
  hname := by kernel_rfl
  body := f3_b
  hbody := by kernel_rfl
  res := [rTmp 4]
  hres := by kernel_rfl
  n := 43
  hn := by kernel_rfl

/-! ### 5: interlock/interlocklaw10.ModesWays (3, 3, 3); results 6; slots: 0 a, 1 b, 2 c, 3 a, 4 b, 5 c -/
noncomputable def f5_b : Sim Try.prog :=
  (.seq (.live [0, 1, 2] (.region 0 [
    ⟨(opAssign (some 6) (.const (Value.bool false)) 4 "law.go:43" #[]).op, none⟩
  ] (by kernel_rfl)))
  (.seq (.seq (.live [0, 1, 2, 8] (.region 1 [
    ⟨(opCallP p8 (some 7) [] #[] 4 "law.go:44" #[]).op, none⟩,
    ⟨(opNot (some 8) 4 (.tmp 7) 4 "law.go:44" #[{ on := 0, ground := Ground.data }]).op, none⟩
  ] (by kernel_rfl)))
  (.cond (.tmp 8)
    (.seq (.live [6] (.region 2 [
      ⟨(opAssign (some 6) (.const (Value.bool false)) 4 "law.go:45" #[]).op, none⟩
    ] (by kernel_rfl)))
    (.live [6] .ret))
    .skip))
  (.seq (.seq (.live [0, 1, 2, 15] (.region 3 [
    ⟨(opMove (some 9) (.tmp 0) 3 "law.go:47" #[]).op, none⟩,
    ⟨(opMove (some 10) (.tmp 1) 3 "law.go:47" #[]).op, none⟩,
    ⟨(opCallP p10 (some 11) [(.tmp 9), (.tmp 10)] #[3, 3] 4 "law.go:47" #[{ on := 0, ground := Ground.data }, { on := 1, ground := Ground.data }]).op, none⟩,
    ⟨(opMove (some 12) (.tmp 1) 3 "law.go:47" #[]).op, none⟩,
    ⟨(opMove (some 13) (.tmp 0) 3 "law.go:47" #[]).op, none⟩,
    ⟨(opCallP p10 (some 14) [(.tmp 12), (.tmp 13)] #[3, 3] 4 "law.go:47" #[{ on := 3, ground := Ground.data }, { on := 4, ground := Ground.data }, { on := 2, ground := Ground.chain }]).op, none⟩,
    ⟨(opNe (some 15) 4 .bool Try.underlying4 (.tmp 11) (.tmp 14) (.inr rfl) 4 4 "law.go:47" #[{ on := 2, ground := Ground.data }, { on := 5, ground := Ground.data }]).op, none⟩
  ] (by kernel_rfl)))
  (.cond (.tmp 15)
    (.seq (.live [6] (.region 4 [
      ⟨(opAssign (some 6) (.const (Value.bool false)) 4 "law.go:48" #[]).op, none⟩
    ] (by kernel_rfl)))
    (.live [6] .ret))
    .skip))
  (.seq (.seq (.live [0, 1, 2, 29] (.region 5 [
    ⟨(opMove (some 16) (.tmp 0) 3 "law.go:50" #[]).op, none⟩,
    ⟨(opMove (some 17) (.tmp 1) 3 "law.go:50" #[]).op, none⟩,
    ⟨(opCallP p12 (some 18) [(.tmp 16), (.tmp 17)] #[3, 3] 4 "law.go:50" #[{ on := 0, ground := Ground.data }, { on := 1, ground := Ground.data }]).op, none⟩,
    ⟨(opMove (some 19) (.tmp 18) 4 "law.go:50" #[{ on := 2, ground := Ground.data }, { on := 2, ground := Ground.chain }]).op, none⟩,
    ⟨(opMove (some 20) (.tmp 1) 3 "law.go:50" #[{ on := 3, ground := Ground.guard }]).op, (some (3, 19, true))⟩,
    ⟨(opMove (some 21) (.tmp 2) 3 "law.go:50" #[{ on := 3, ground := Ground.guard }]).op, (some (3, 19, true))⟩,
    ⟨(opCallP p10 (some 22) [(.tmp 20), (.tmp 21)] #[3, 3] 4 "law.go:50" #[{ on := 4, ground := Ground.data }, { on := 5, ground := Ground.data }, { on := 3, ground := Ground.chain }, { on := 3, ground := Ground.guard }]).op, (some (3, 19, true))⟩,
    ⟨(opPick (some 23) (.tmp 19) (.tmp 22) (.const (Value.bool false)) 4 "law.go:50" #[{ on := 3, ground := Ground.data }, { on := 6, ground := Ground.data }]).op, none⟩,
    ⟨(opMove (some 24) (.tmp 23) 4 "law.go:50" #[{ on := 7, ground := Ground.data }, { on := 6, ground := Ground.chain }]).op, none⟩,
    ⟨(opMove (some 25) (.tmp 0) 3 "law.go:50" #[{ on := 8, ground := Ground.guard }]).op, (some (8, 24, true))⟩,
    ⟨(opMove (some 26) (.tmp 2) 3 "law.go:50" #[{ on := 8, ground := Ground.guard }]).op, (some (8, 24, true))⟩,
    ⟨(opCallP p10 (some 27) [(.tmp 25), (.tmp 26)] #[3, 3] 4 "law.go:50" #[{ on := 9, ground := Ground.data }, { on := 10, ground := Ground.data }, { on := 8, ground := Ground.chain }, { on := 8, ground := Ground.guard }]).op, (some (8, 24, true))⟩,
    ⟨(opNot (some 28) 4 (.tmp 27) 4 "law.go:50" #[{ on := 11, ground := Ground.data }, { on := 8, ground := Ground.guard }]).op, (some (8, 24, true))⟩,
    ⟨(opPick (some 29) (.tmp 24) (.tmp 28) (.const (Value.bool false)) 4 "law.go:50" #[{ on := 8, ground := Ground.data }, { on := 12, ground := Ground.data }]).op, none⟩
  ] (by kernel_rfl)))
  (.cond (.tmp 29)
    (.seq (.live [6] (.region 6 [
      ⟨(opAssign (some 6) (.const (Value.bool false)) 4 "law.go:51" #[]).op, none⟩
    ] (by kernel_rfl)))
    (.live [6] .ret))
    .skip))
  (.seq (.seq (.live [0, 43] (.region 7 [
    ⟨(opMove (some 30) (.tmp 0) 3 "law.go:53" #[]).op, none⟩,
    ⟨(opMove (some 31) (.tmp 1) 3 "law.go:53" #[]).op, none⟩,
    ⟨(opCallP p12 (some 32) [(.tmp 30), (.tmp 31)] #[3, 3] 4 "law.go:53" #[{ on := 0, ground := Ground.data }, { on := 1, ground := Ground.data }]).op, none⟩,
    ⟨(opMove (some 33) (.tmp 32) 4 "law.go:53" #[{ on := 2, ground := Ground.data }, { on := 2, ground := Ground.chain }]).op, none⟩,
    ⟨(opMove (some 34) (.tmp 1) 3 "law.go:53" #[{ on := 3, ground := Ground.guard }]).op, (some (3, 33, true))⟩,
    ⟨(opMove (some 35) (.tmp 2) 3 "law.go:53" #[{ on := 3, ground := Ground.guard }]).op, (some (3, 33, true))⟩,
    ⟨(opCallP p12 (some 36) [(.tmp 34), (.tmp 35)] #[3, 3] 4 "law.go:53" #[{ on := 4, ground := Ground.data }, { on := 5, ground := Ground.data }, { on := 3, ground := Ground.chain }, { on := 3, ground := Ground.guard }]).op, (some (3, 33, true))⟩,
    ⟨(opPick (some 37) (.tmp 33) (.tmp 36) (.const (Value.bool false)) 4 "law.go:53" #[{ on := 3, ground := Ground.data }, { on := 6, ground := Ground.data }]).op, none⟩,
    ⟨(opMove (some 38) (.tmp 37) 4 "law.go:53" #[{ on := 7, ground := Ground.data }, { on := 6, ground := Ground.chain }]).op, none⟩,
    ⟨(opMove (some 39) (.tmp 0) 3 "law.go:53" #[{ on := 8, ground := Ground.guard }]).op, (some (8, 38, true))⟩,
    ⟨(opMove (some 40) (.tmp 2) 3 "law.go:53" #[{ on := 8, ground := Ground.guard }]).op, (some (8, 38, true))⟩,
    ⟨(opCallP p12 (some 41) [(.tmp 39), (.tmp 40)] #[3, 3] 4 "law.go:53" #[{ on := 9, ground := Ground.data }, { on := 10, ground := Ground.data }, { on := 8, ground := Ground.chain }, { on := 8, ground := Ground.guard }]).op, (some (8, 38, true))⟩,
    ⟨(opNot (some 42) 4 (.tmp 41) 4 "law.go:53" #[{ on := 11, ground := Ground.data }, { on := 8, ground := Ground.guard }]).op, (some (8, 38, true))⟩,
    ⟨(opPick (some 43) (.tmp 38) (.tmp 42) (.const (Value.bool false)) 4 "law.go:53" #[{ on := 8, ground := Ground.data }, { on := 12, ground := Ground.data }]).op, none⟩
  ] (by kernel_rfl)))
  (.cond (.tmp 43)
    (.seq (.live [6] (.region 8 [
      ⟨(opAssign (some 6) (.const (Value.bool false)) 4 "law.go:54" #[]).op, none⟩
    ] (by kernel_rfl)))
    (.live [6] .ret))
    .skip))
  (.seq (.live [6] (.region 9 [
    ⟨(opMove (some 44) (.tmp 0) 3 "law.go:56" #[]).op, none⟩,
    ⟨(opCallP p9 (some 45) [(.tmp 44)] #[3] 4 "law.go:56" #[{ on := 0, ground := Ground.data }]).op, none⟩,
    ⟨(opNot (some 46) 4 (.tmp 45) 4 "law.go:56" #[{ on := 1, ground := Ground.data }]).op, none⟩,
    ⟨(opMove (some 47) (.tmp 46) 4 "law.go:56" #[{ on := 2, ground := Ground.data }, { on := 1, ground := Ground.chain }]).op, none⟩,
    ⟨(opMove (some 48) (.tmp 0) 3 "law.go:56" #[{ on := 3, ground := Ground.guard }]).op, (some (3, 47, false))⟩,
    ⟨(opMove (some 49) (.tmp 0) 3 "law.go:56" #[{ on := 3, ground := Ground.guard }]).op, (some (3, 47, false))⟩,
    ⟨(opCallP p12 (some 50) [(.tmp 48), (.tmp 49)] #[3, 3] 4 "law.go:56" #[{ on := 4, ground := Ground.data }, { on := 5, ground := Ground.data }, { on := 3, ground := Ground.chain }, { on := 3, ground := Ground.guard }]).op, (some (3, 47, false))⟩,
    ⟨(opMove (some 51) (.tmp 50) 4 "law.go:56" #[{ on := 6, ground := Ground.data }, { on := 6, ground := Ground.chain }, { on := 3, ground := Ground.guard }]).op, (some (3, 47, false))⟩,
    ⟨(opMove (some 52) (.tmp 0) 3 "law.go:56" #[{ on := 7, ground := Ground.guard }]).op, (some (7, 51, true))⟩,
    ⟨(opCallP p12 (some 53) [(.const (Value.int IntKind.i64 8)), (.tmp 52)] #[3, 3] 4 "law.go:56" #[{ on := 8, ground := Ground.data }, { on := 7, ground := Ground.chain }, { on := 7, ground := Ground.guard }]).op, (some (7, 51, true))⟩,
    ⟨(opPick (some 54) (.tmp 51) (.tmp 53) (.const (Value.bool false)) 4 "law.go:56" #[{ on := 7, ground := Ground.data }, { on := 9, ground := Ground.data }, { on := 3, ground := Ground.guard }]).op, (some (3, 47, false))⟩,
    ⟨(opPick (some 55) (.tmp 47) (.const (Value.bool true)) (.tmp 54) 4 "law.go:56" #[{ on := 3, ground := Ground.data }, { on := 10, ground := Ground.data }]).op, none⟩,
    ⟨(opAssign (some 6) (.tmp 55) 4 "law.go:56" #[{ on := 11, ground := Ground.data }, { on := 9, ground := Ground.chain }, { on := 0, ground := Ground.phase }, { on := 1, ground := Ground.phase }, { on := 2, ground := Ground.phase }, { on := 3, ground := Ground.phase }, { on := 4, ground := Ground.phase }, { on := 5, ground := Ground.phase }, { on := 6, ground := Ground.phase }, { on := 7, ground := Ground.phase }, { on := 8, ground := Ground.phase }, { on := 9, ground := Ground.phase }, { on := 10, ground := Ground.phase }, { on := 11, ground := Ground.phase }]).op, none⟩
  ] (by kernel_rfl)))
  (.live [6] .ret)))))))

noncomputable def f5 : Fun Try.prog where
  id := 5
  fn := Try.f5
  hf := Try.func5
  hname := by kernel_rfl
  body := f5_b
  hbody := by kernel_rfl
  res := [rTmp 6]
  hres := by kernel_rfl
  n := 56
  hn := by kernel_rfl

/-! ### 6: interlock/interlocklaw10.ModesJoin (3, 3, 3); results 6; slots: 0 a, 1 b, 2 c, 3 a, 4 b, 5 c, 7 j, 8 n, 9 m -/
/-- A loop's round; at its head live: 2 c, 7 j, 8 n, 9 m -/
noncomputable def f6_l0 : Sim Try.prog :=
  (.seq (.seq (.live [2, 7, 8, 9, 59] (.region 12 [
    ⟨(opMove (some 58) (.tmp 9) 3 "law.go:75" #[]).op, none⟩,
    ⟨(opBin (some 59) .leq 3 (.tmp 58) (.const (Value.int IntKind.i64 8)) 3 4 "law.go:75" #[{ on := 0, ground := Ground.data }]).op, none⟩
  ] (by kernel_rfl)))
  (.cond (.tmp 59)
    .skip
    (.live [8] (.exit 0))))
  (.seq (.block 1 (.seq (.seq (.live [2, 7, 8, 9, 64] (.region 14 [
      ⟨(opMove (some 62) (.tmp 7) 3 "law.go:76" #[]).op, none⟩,
      ⟨(opMove (some 63) (.tmp 9) 3 "law.go:76" #[]).op, none⟩,
      ⟨(opCallP p10 (some 64) [(.tmp 62), (.tmp 63)] #[3, 3] 4 "law.go:76" #[{ on := 0, ground := Ground.data }, { on := 1, ground := Ground.data }]).op, none⟩
    ] (by kernel_rfl)))
    (.cond (.tmp 64)
      (.live [2, 7, 8, 9] (.region 15 [
        ⟨(opMove (some 65) (.tmp 8) 3 "law.go:77" #[]).op, none⟩,
        ⟨(opBin (some 66) .add 3 (.tmp 65) (.const (Value.int IntKind.i64 1)) 3 3 "law.go:77" #[{ on := 0, ground := Ground.data }]).op, none⟩,
        ⟨(opAssign (some 8) (.tmp 66) 3 "law.go:77" #[{ on := 1, ground := Ground.data }, { on := 0, ground := Ground.phase }, { on := 1, ground := Ground.phase }]).op, none⟩
      ] (by kernel_rfl)))
      .skip))
    (.seq (.live [2, 7, 8, 9, 69] (.region 16 [
      ⟨(opMove (some 67) (.tmp 2) 3 "law.go:79" #[]).op, none⟩,
      ⟨(opMove (some 68) (.tmp 9) 3 "law.go:79" #[]).op, none⟩,
      ⟨(opCallP p10 (some 69) [(.tmp 67), (.tmp 68)] #[3, 3] 4 "law.go:79" #[{ on := 0, ground := Ground.data }, { on := 1, ground := Ground.data }]).op, none⟩
    ] (by kernel_rfl)))
    (.cond (.tmp 69)
      (.live [2, 7, 8, 9] (.region 17 [
        ⟨(opMove (some 70) (.tmp 8) 3 "law.go:80" #[]).op, none⟩,
        ⟨(opBin (some 71) .sub 3 (.tmp 70) (.const (Value.int IntKind.i64 1)) 3 3 "law.go:80" #[{ on := 0, ground := Ground.data }]).op, none⟩,
        ⟨(opAssign (some 8) (.tmp 71) 3 "law.go:80" #[{ on := 1, ground := Ground.data }, { on := 0, ground := Ground.phase }, { on := 1, ground := Ground.phase }]).op, none⟩
      ] (by kernel_rfl)))
      .skip))))
  (.live [2, 7, 8, 9] (.region 13 [
    ⟨(opMove (some 60) (.tmp 9) 3 "law.go:75" #[]).op, none⟩,
    ⟨(opBin (some 61) .add 3 (.tmp 60) (.const (Value.int IntKind.i64 1)) 3 3 "law.go:75" #[{ on := 0, ground := Ground.data }]).op, none⟩,
    ⟨(opAssign (some 9) (.tmp 61) 3 "law.go:75" #[{ on := 1, ground := Ground.data }, { on := 0, ground := Ground.phase }, { on := 1, ground := Ground.phase }]).op, none⟩
  ] (by kernel_rfl)))))

/-- What follows a loop. -/
noncomputable def f6_r0 : Sim Try.prog :=
  (.seq (.live [6] (.region 18 [
    ⟨(opMove (some 72) (.tmp 8) 3 "law.go:83" #[]).op, none⟩,
    ⟨(opBin (some 73) .leq 3 (.tmp 72) (.const (Value.int IntKind.i64 0)) 3 4 "law.go:83" #[{ on := 0, ground := Ground.data }]).op, none⟩,
    ⟨(opAssign (some 6) (.tmp 73) 4 "law.go:83" #[{ on := 1, ground := Ground.data }, { on := 0, ground := Ground.phase }, { on := 1, ground := Ground.phase }]).op, none⟩
  ] (by kernel_rfl)))
  (.live [6] .ret))

noncomputable def f6_b : Sim Try.prog :=
  (.seq (.live [0, 1, 2] (.region 0 [
    ⟨(opAssign (some 6) (.const (Value.bool false)) 4 "law.go:60" #[]).op, none⟩
  ] (by kernel_rfl)))
  (.seq (.seq (.live [0, 1, 2, 11] (.region 1 [
    ⟨(opCallP p8 (some 10) [] #[] 4 "law.go:61" #[]).op, none⟩,
    ⟨(opNot (some 11) 4 (.tmp 10) 4 "law.go:61" #[{ on := 0, ground := Ground.data }]).op, none⟩
  ] (by kernel_rfl)))
  (.cond (.tmp 11)
    (.seq (.live [6] (.region 2 [
      ⟨(opAssign (some 6) (.const (Value.bool false)) 4 "law.go:62" #[]).op, none⟩
    ] (by kernel_rfl)))
    (.live [6] .ret))
    .skip))
  (.seq (.live [0, 1, 2, 7] (.region 3 [
    ⟨(opMove (some 12) (.tmp 0) 3 "law.go:64" #[]).op, none⟩,
    ⟨(opMove (some 13) (.tmp 1) 3 "law.go:64" #[]).op, none⟩,
    ⟨(opCallP p14 (some 14) [(.tmp 12), (.tmp 13)] #[3, 3] 3 "law.go:64" #[{ on := 0, ground := Ground.data }, { on := 1, ground := Ground.data }]).op, none⟩,
    ⟨(opAssign (some 7) (.tmp 14) 3 "law.go:64" #[{ on := 2, ground := Ground.data }, { on := 2, ground := Ground.chain }, { on := 0, ground := Ground.phase }, { on := 1, ground := Ground.phase }, { on := 2, ground := Ground.phase }]).op, none⟩
  ] (by kernel_rfl)))
  (.seq (.seq (.live [0, 1, 2, 7, 22] (.region 4 [
    ⟨(opMove (some 15) (.tmp 0) 3 "law.go:65" #[]).op, none⟩,
    ⟨(opCallP p9 (some 16) [(.tmp 15)] #[3] 4 "law.go:65" #[{ on := 0, ground := Ground.data }]).op, none⟩,
    ⟨(opNot (some 17) 4 (.tmp 16) 4 "law.go:65" #[{ on := 1, ground := Ground.data }]).op, none⟩,
    ⟨(opMove (some 18) (.tmp 17) 4 "law.go:65" #[{ on := 2, ground := Ground.data }, { on := 1, ground := Ground.chain }]).op, none⟩,
    ⟨(opMove (some 19) (.tmp 1) 3 "law.go:65" #[{ on := 3, ground := Ground.guard }]).op, (some (3, 18, false))⟩,
    ⟨(opCallP p9 (some 20) [(.tmp 19)] #[3] 4 "law.go:65" #[{ on := 4, ground := Ground.data }, { on := 3, ground := Ground.chain }, { on := 3, ground := Ground.guard }]).op, (some (3, 18, false))⟩,
    ⟨(opNot (some 21) 4 (.tmp 20) 4 "law.go:65" #[{ on := 5, ground := Ground.data }, { on := 3, ground := Ground.guard }]).op, (some (3, 18, false))⟩,
    ⟨(opPick (some 22) (.tmp 18) (.const (Value.bool true)) (.tmp 21) 4 "law.go:65" #[{ on := 3, ground := Ground.data }, { on := 6, ground := Ground.data }]).op, none⟩
  ] (by kernel_rfl)))
  (.cond (.tmp 22)
    (.seq (.live [6] (.region 5 [
      ⟨(opMove (some 23) (.tmp 7) 3 "law.go:66" #[]).op, none⟩,
      ⟨(opBin (some 24) .eql 3 (.tmp 23) (.const (Value.int IntKind.i64 0)) 3 4 "law.go:66" #[{ on := 0, ground := Ground.data }]).op, none⟩,
      ⟨(opAssign (some 6) (.tmp 24) 4 "law.go:66" #[{ on := 1, ground := Ground.data }, { on := 0, ground := Ground.phase }, { on := 1, ground := Ground.phase }]).op, none⟩
    ] (by kernel_rfl)))
    (.live [6] .ret))
    .skip))
  (.seq (.seq (.live [0, 1, 2, 7, 47] (.region 6 [
    ⟨(opMove (some 25) (.tmp 7) 3 "law.go:68" #[]).op, none⟩,
    ⟨(opMove (some 26) (.tmp 0) 3 "law.go:68" #[]).op, none⟩,
    ⟨(opCallP p12 (some 27) [(.tmp 25), (.tmp 26)] #[3, 3] 4 "law.go:68" #[{ on := 0, ground := Ground.data }, { on := 1, ground := Ground.data }]).op, none⟩,
    ⟨(opNot (some 28) 4 (.tmp 27) 4 "law.go:68" #[{ on := 2, ground := Ground.data }]).op, none⟩,
    ⟨(opMove (some 29) (.tmp 28) 4 "law.go:68" #[{ on := 3, ground := Ground.data }, { on := 2, ground := Ground.chain }]).op, none⟩,
    ⟨(opMove (some 30) (.tmp 7) 3 "law.go:68" #[{ on := 4, ground := Ground.guard }]).op, (some (4, 29, false))⟩,
    ⟨(opMove (some 31) (.tmp 1) 3 "law.go:68" #[{ on := 4, ground := Ground.guard }]).op, (some (4, 29, false))⟩,
    ⟨(opCallP p12 (some 32) [(.tmp 30), (.tmp 31)] #[3, 3] 4 "law.go:68" #[{ on := 5, ground := Ground.data }, { on := 6, ground := Ground.data }, { on := 4, ground := Ground.chain }, { on := 4, ground := Ground.guard }]).op, (some (4, 29, false))⟩,
    ⟨(opNot (some 33) 4 (.tmp 32) 4 "law.go:68" #[{ on := 7, ground := Ground.data }, { on := 4, ground := Ground.guard }]).op, (some (4, 29, false))⟩,
    ⟨(opPick (some 34) (.tmp 29) (.const (Value.bool true)) (.tmp 33) 4 "law.go:68" #[{ on := 4, ground := Ground.data }, { on := 8, ground := Ground.data }]).op, none⟩,
    ⟨(opMove (some 35) (.tmp 34) 4 "law.go:68" #[{ on := 9, ground := Ground.data }, { on := 7, ground := Ground.chain }]).op, none⟩,
    ⟨(opMove (some 36) (.tmp 7) 3 "law.go:68" #[{ on := 10, ground := Ground.guard }]).op, (some (10, 35, false))⟩,
    ⟨(opMove (some 37) (.tmp 1) 3 "law.go:68" #[{ on := 10, ground := Ground.guard }]).op, (some (10, 35, false))⟩,
    ⟨(opMove (some 38) (.tmp 0) 3 "law.go:68" #[{ on := 10, ground := Ground.guard }]).op, (some (10, 35, false))⟩,
    ⟨(opCallP p14 (some 39) [(.tmp 37), (.tmp 38)] #[3, 3] 3 "law.go:68" #[{ on := 12, ground := Ground.data }, { on := 13, ground := Ground.data }, { on := 10, ground := Ground.chain }, { on := 10, ground := Ground.guard }]).op, (some (10, 35, false))⟩,
    ⟨(opBin (some 40) .neq 3 (.tmp 36) (.tmp 39) 3 4 "law.go:68" #[{ on := 11, ground := Ground.data }, { on := 14, ground := Ground.data }, { on := 10, ground := Ground.guard }]).op, (some (10, 35, false))⟩,
    ⟨(opPick (some 41) (.tmp 35) (.const (Value.bool true)) (.tmp 40) 4 "law.go:68" #[{ on := 10, ground := Ground.data }, { on := 15, ground := Ground.data }]).op, none⟩,
    ⟨(opMove (some 42) (.tmp 41) 4 "law.go:68" #[{ on := 16, ground := Ground.data }, { on := 14, ground := Ground.chain }]).op, none⟩,
    ⟨(opMove (some 43) (.tmp 0) 3 "law.go:68" #[{ on := 17, ground := Ground.guard }]).op, (some (17, 42, false))⟩,
    ⟨(opMove (some 44) (.tmp 0) 3 "law.go:68" #[{ on := 17, ground := Ground.guard }]).op, (some (17, 42, false))⟩,
    ⟨(opCallP p14 (some 45) [(.tmp 43), (.tmp 44)] #[3, 3] 3 "law.go:68" #[{ on := 18, ground := Ground.data }, { on := 19, ground := Ground.data }, { on := 17, ground := Ground.chain }, { on := 17, ground := Ground.guard }]).op, (some (17, 42, false))⟩,
    ⟨(opBin (some 46) .eql 3 (.tmp 45) (.const (Value.int IntKind.i64 0)) 3 4 "law.go:68" #[{ on := 20, ground := Ground.data }, { on := 17, ground := Ground.guard }]).op, (some (17, 42, false))⟩,
    ⟨(opPick (some 47) (.tmp 42) (.const (Value.bool true)) (.tmp 46) 4 "law.go:68" #[{ on := 17, ground := Ground.data }, { on := 21, ground := Ground.data }]).op, none⟩
  ] (by kernel_rfl)))
  (.cond (.tmp 47)
    (.seq (.live [6] (.region 7 [
      ⟨(opAssign (some 6) (.const (Value.bool false)) 4 "law.go:69" #[]).op, none⟩
    ] (by kernel_rfl)))
    (.live [6] .ret))
    .skip))
  (.seq (.seq (.live [2, 7, 57] (.region 8 [
    ⟨(opMove (some 48) (.tmp 2) 3 "law.go:71" #[]).op, none⟩,
    ⟨(opMove (some 49) (.tmp 0) 3 "law.go:71" #[]).op, none⟩,
    ⟨(opCallP p12 (some 50) [(.tmp 48), (.tmp 49)] #[3, 3] 4 "law.go:71" #[{ on := 0, ground := Ground.data }, { on := 1, ground := Ground.data }]).op, none⟩,
    ⟨(opNot (some 51) 4 (.tmp 50) 4 "law.go:71" #[{ on := 2, ground := Ground.data }]).op, none⟩,
    ⟨(opMove (some 52) (.tmp 51) 4 "law.go:71" #[{ on := 3, ground := Ground.data }, { on := 2, ground := Ground.chain }]).op, none⟩,
    ⟨(opMove (some 53) (.tmp 2) 3 "law.go:71" #[{ on := 4, ground := Ground.guard }]).op, (some (4, 52, false))⟩,
    ⟨(opMove (some 54) (.tmp 1) 3 "law.go:71" #[{ on := 4, ground := Ground.guard }]).op, (some (4, 52, false))⟩,
    ⟨(opCallP p12 (some 55) [(.tmp 53), (.tmp 54)] #[3, 3] 4 "law.go:71" #[{ on := 5, ground := Ground.data }, { on := 6, ground := Ground.data }, { on := 4, ground := Ground.chain }, { on := 4, ground := Ground.guard }]).op, (some (4, 52, false))⟩,
    ⟨(opNot (some 56) 4 (.tmp 55) 4 "law.go:71" #[{ on := 7, ground := Ground.data }, { on := 4, ground := Ground.guard }]).op, (some (4, 52, false))⟩,
    ⟨(opPick (some 57) (.tmp 52) (.const (Value.bool true)) (.tmp 56) 4 "law.go:71" #[{ on := 4, ground := Ground.data }, { on := 8, ground := Ground.data }]).op, none⟩
  ] (by kernel_rfl)))
  (.cond (.tmp 57)
    (.seq (.live [6] (.region 9 [
      ⟨(opAssign (some 6) (.const (Value.bool true)) 4 "law.go:72" #[]).op, none⟩
    ] (by kernel_rfl)))
    (.live [6] .ret))
    .skip))
  (.seq (.live [2, 7, 8] (.region 10 [
    ⟨(opAssign (some 8) (.const (Value.int IntKind.i64 0)) 3 "law.go:74" #[]).op, none⟩
  ] (by kernel_rfl)))
  (.seq (.seq (.live [2, 7, 8, 9] (.region 11 [
    ⟨(opAssign (some 9) (.const (Value.int IntKind.i64 1)) 3 "law.go:75" #[]).op, none⟩
  ] (by kernel_rfl)))
  (.block 0 (.loop [2, 7, 8, 9] f6_l0)))
  f6_r0))))))))

noncomputable def f6 : Fun Try.prog where
  id := 6
  fn := Try.f6
  hf := Try.func6
  hname := by kernel_rfl
  body := f6_b
  hbody := by kernel_rfl
  res := [rTmp 6]
  hres := by kernel_rfl
  n := 74
  hn := by kernel_rfl

end Go.Proofs.Ytfifiepbfnkelaa.V
