/- The functions' pieces, as told by gen.py. -/
import Derived.Test.YtfifiepbfnkelaaM2
set_option linter.unusedVariables false
set_option maxRecDepth 20000
namespace Go.Proofs.Ytfifiepbfnkelaa.V
open Go Go.V Go.RowKit


/-! ### 10: interlock/modes.Conflict (3, 3); results 4; slots: 0 a, 1 b, 2 a, 3 b -/
noncomputable def f10_b : Sim Try.prog :=
  (.seq (.live [0, 1, 8, 9, 12, 13, 14, 15, 16, 17, 18] (.region 0 [
    ⟨(opAssign (some 4) (.const (Value.bool false)) 4 "modes.go:52" #[]).op, none⟩
  ] (by kernel_rfl)))
  (.seq (.live [4] (.region 1 [
    ⟨(opMove (some 5) (.tmp 0) 3 "modes.go:52" #[]).op, none⟩,
    ⟨(opCallP p9 (some 6) [(.tmp 5)] #[3] 4 "modes.go:52" #[{ on := 0, ground := Ground.data }]).op, none⟩,
    ⟨(opMove (some 7) (.tmp 6) 4 "modes.go:52" #[{ on := 1, ground := Ground.data }, { on := 1, ground := Ground.chain }]).op, none⟩,
    ⟨(opMove (some 8) (.tmp 1) 3 "modes.go:52" #[{ on := 2, ground := Ground.guard }]).op, (some (2, 7, true))⟩,
    ⟨(opCallP p9 (some 9) [(.tmp 8)] #[3] 4 "modes.go:52" #[{ on := 3, ground := Ground.data }, { on := 2, ground := Ground.chain }, { on := 2, ground := Ground.guard }]).op, (some (2, 7, true))⟩,
    ⟨(opPick (some 10) (.tmp 7) (.tmp 9) (.const (Value.bool false)) 4 "modes.go:52" #[{ on := 2, ground := Ground.data }, { on := 4, ground := Ground.data }]).op, none⟩,
    ⟨(opMove (some 11) (.tmp 10) 4 "modes.go:52" #[{ on := 5, ground := Ground.data }, { on := 4, ground := Ground.chain }]).op, none⟩,
    ⟨(opMove (some 12) (.tmp 0) 3 "modes.go:52" #[{ on := 6, ground := Ground.guard }]).op, (some (6, 11, true))⟩,
    ⟨(opCallP p20 (some 13) [(.tmp 12)] #[3] 33 "modes.go:52" #[{ on := 7, ground := Ground.data }, { on := 6, ground := Ground.chain }, { on := 6, ground := Ground.guard }]).op, (some (6, 11, true))⟩,
    ⟨(opMove (some 14) (.tmp 1) 3 "modes.go:52" #[{ on := 6, ground := Ground.guard }]).op, (some (6, 11, true))⟩,
    ⟨(opBuildSlice (some 15) 36 1 [(0, (.tmp 14))] 3 1 8 (.int .i64 0) el36 (by kernel_rfl) (by decide) 36 "modes.go:52" #[{ on := 9, ground := Ground.data }, { on := 6, ground := Ground.guard }]).op, (some (6, 11, true))⟩,
    ⟨opCall (f21.orc 12) (some 16) [(.tmp 15)] #[36] 33 "modes.go:52" #[{ on := 10, ground := Ground.data }, { on := 8, ground := Ground.chain }, { on := 6, ground := Ground.guard }], (some (6, 11, true))⟩,
    ⟨(opBin (some 17) .and 33 (.tmp 13) (.tmp 16) 33 33 "modes.go:52" #[{ on := 8, ground := Ground.data }, { on := 11, ground := Ground.data }, { on := 6, ground := Ground.guard }]).op, (some (6, 11, true))⟩,
    ⟨(opBin (some 18) .neq 33 (.tmp 17) (.const (Value.int IntKind.u16 0)) 33 4 "modes.go:52" #[{ on := 12, ground := Ground.data }, { on := 6, ground := Ground.guard }]).op, (some (6, 11, true))⟩,
    ⟨(opPick (some 19) (.tmp 11) (.tmp 18) (.const (Value.bool false)) 4 "modes.go:52" #[{ on := 6, ground := Ground.data }, { on := 13, ground := Ground.data }]).op, none⟩,
    ⟨(opAssign (some 4) (.tmp 19) 4 "modes.go:52" #[{ on := 14, ground := Ground.data }, { on := 11, ground := Ground.chain }, { on := 0, ground := Ground.phase }, { on := 1, ground := Ground.phase }, { on := 2, ground := Ground.phase }, { on := 3, ground := Ground.phase }, { on := 4, ground := Ground.phase }, { on := 5, ground := Ground.phase }, { on := 6, ground := Ground.phase }, { on := 7, ground := Ground.phase }, { on := 8, ground := Ground.phase }, { on := 9, ground := Ground.phase }, { on := 10, ground := Ground.phase }, { on := 11, ground := Ground.phase }, { on := 12, ground := Ground.phase }, { on := 13, ground := Ground.phase }, { on := 14, ground := Ground.phase }]).op, none⟩
  ] (by kernel_rfl)))
  (.live [4] .ret)))

noncomputable def f10 : Fun Try.prog where
  id := 10
  fn := Try.f10
  hf := Try.func10
  hname := by kernel_rfl
  body := f10_b
  hbody := by kernel_rfl
  res := [rTmp 4]
  hres := by kernel_rfl
  n := 20
  hn := by kernel_rfl

/-! ### 12: interlock/modes.Covers (3, 3); results 4; slots: 0 a, 1 b, 2 a, 3 b -/
noncomputable def f12_b : Sim Try.prog :=
  (.seq (.live [0, 1, 8, 9, 12, 13, 14, 15, 16, 17] (.region 0 [
    ⟨(opAssign (some 4) (.const (Value.bool false)) 4 "modes.go:55" #[]).op, none⟩
  ] (by kernel_rfl)))
  (.seq (.live [4] (.region 1 [
    ⟨(opMove (some 5) (.tmp 0) 3 "modes.go:55" #[]).op, none⟩,
    ⟨(opCallP p9 (some 6) [(.tmp 5)] #[3] 4 "modes.go:55" #[{ on := 0, ground := Ground.data }]).op, none⟩,
    ⟨(opMove (some 7) (.tmp 6) 4 "modes.go:55" #[{ on := 1, ground := Ground.data }, { on := 1, ground := Ground.chain }]).op, none⟩,
    ⟨(opMove (some 8) (.tmp 1) 3 "modes.go:55" #[{ on := 2, ground := Ground.guard }]).op, (some (2, 7, true))⟩,
    ⟨(opCallP p9 (some 9) [(.tmp 8)] #[3] 4 "modes.go:55" #[{ on := 3, ground := Ground.data }, { on := 2, ground := Ground.chain }, { on := 2, ground := Ground.guard }]).op, (some (2, 7, true))⟩,
    ⟨(opPick (some 10) (.tmp 7) (.tmp 9) (.const (Value.bool false)) 4 "modes.go:55" #[{ on := 2, ground := Ground.data }, { on := 4, ground := Ground.data }]).op, none⟩,
    ⟨(opMove (some 11) (.tmp 10) 4 "modes.go:55" #[{ on := 5, ground := Ground.data }, { on := 4, ground := Ground.chain }]).op, none⟩,
    ⟨(opMove (some 12) (.tmp 1) 3 "modes.go:55" #[{ on := 6, ground := Ground.guard }]).op, (some (6, 11, true))⟩,
    ⟨(opCallP p20 (some 13) [(.tmp 12)] #[3] 33 "modes.go:55" #[{ on := 7, ground := Ground.data }, { on := 6, ground := Ground.chain }, { on := 6, ground := Ground.guard }]).op, (some (6, 11, true))⟩,
    ⟨(opMove (some 14) (.tmp 0) 3 "modes.go:55" #[{ on := 6, ground := Ground.guard }]).op, (some (6, 11, true))⟩,
    ⟨(opCallP p20 (some 15) [(.tmp 14)] #[3] 33 "modes.go:55" #[{ on := 9, ground := Ground.data }, { on := 8, ground := Ground.chain }, { on := 6, ground := Ground.guard }]).op, (some (6, 11, true))⟩,
    ⟨(opBin (some 16) .andNot 33 (.tmp 13) (.tmp 15) 33 33 "modes.go:55" #[{ on := 8, ground := Ground.data }, { on := 10, ground := Ground.data }, { on := 6, ground := Ground.guard }]).op, (some (6, 11, true))⟩,
    ⟨(opBin (some 17) .eql 33 (.tmp 16) (.const (Value.int IntKind.u16 0)) 33 4 "modes.go:55" #[{ on := 11, ground := Ground.data }, { on := 6, ground := Ground.guard }]).op, (some (6, 11, true))⟩,
    ⟨(opPick (some 18) (.tmp 11) (.tmp 17) (.const (Value.bool false)) 4 "modes.go:55" #[{ on := 6, ground := Ground.data }, { on := 12, ground := Ground.data }]).op, none⟩,
    ⟨(opAssign (some 4) (.tmp 18) 4 "modes.go:55" #[{ on := 13, ground := Ground.data }, { on := 10, ground := Ground.chain }, { on := 0, ground := Ground.phase }, { on := 1, ground := Ground.phase }, { on := 2, ground := Ground.phase }, { on := 3, ground := Ground.phase }, { on := 4, ground := Ground.phase }, { on := 5, ground := Ground.phase }, { on := 6, ground := Ground.phase }, { on := 7, ground := Ground.phase }, { on := 8, ground := Ground.phase }, { on := 9, ground := Ground.phase }, { on := 10, ground := Ground.phase }, { on := 11, ground := Ground.phase }, { on := 12, ground := Ground.phase }, { on := 13, ground := Ground.phase }]).op, none⟩
  ] (by kernel_rfl)))
  (.live [4] .ret)))

noncomputable def f12 : Fun Try.prog where
  id := 12
  fn := Try.f12
  hf := Try.func12
  hname := by kernel_rfl
  body := f12_b
  hbody := by kernel_rfl
  res := [rTmp 4]
  hres := by kernel_rfl
  n := 19
  hn := by kernel_rfl

/-! ### 13: interlock/interlockref10.Covers (3, 3); results 4; slots: 0 a, 1 b, 2 a, 3 b, 5 m -/
/-- A loop's round; at its head live: 0 a, 1 b, 5 m, 22 , 23 , 24 , 25  -/
noncomputable def f13_l0 : Sim Try.prog :=
  (.seq (.seq (.live [0, 1, 5, 15, 22, 23, 24, 25] (.region 4 [
    ⟨(opMove (some 14) (.tmp 5) 3 "ref.go:47" #[]).op, none⟩,
    ⟨(opBin (some 15) .leq 3 (.tmp 14) (.const (Value.int IntKind.i64 8)) 3 4 "ref.go:47" #[{ on := 0, ground := Ground.data }]).op, none⟩
  ] (by kernel_rfl)))
  (.cond (.tmp 15)
    .skip
    (.live [] (.exit 0))))
  (.seq (.block 1 (.seq (.live [0, 1, 5, 22, 23, 24, 25, 26] (.region 6 [
      ⟨(opMove (some 18) (.tmp 1) 3 "ref.go:48" #[]).op, none⟩,
      ⟨(opMove (some 19) (.tmp 5) 3 "ref.go:48" #[]).op, none⟩,
      ⟨(opCallP p11 (some 20) [(.tmp 18), (.tmp 19)] #[3, 3] 4 "ref.go:48" #[{ on := 0, ground := Ground.data }, { on := 1, ground := Ground.data }]).op, none⟩,
      ⟨(opMove (some 21) (.tmp 20) 4 "ref.go:48" #[{ on := 2, ground := Ground.data }, { on := 2, ground := Ground.chain }]).op, none⟩,
      ⟨(opMove (some 22) (.tmp 0) 3 "ref.go:48" #[{ on := 3, ground := Ground.guard }]).op, (some (3, 21, true))⟩,
      ⟨(opMove (some 23) (.tmp 5) 3 "ref.go:48" #[{ on := 3, ground := Ground.guard }]).op, (some (3, 21, true))⟩,
      ⟨(opCallP p11 (some 24) [(.tmp 22), (.tmp 23)] #[3, 3] 4 "ref.go:48" #[{ on := 4, ground := Ground.data }, { on := 5, ground := Ground.data }, { on := 3, ground := Ground.chain }, { on := 3, ground := Ground.guard }]).op, (some (3, 21, true))⟩,
      ⟨(opNot (some 25) 4 (.tmp 24) 4 "ref.go:48" #[{ on := 6, ground := Ground.data }, { on := 3, ground := Ground.guard }]).op, (some (3, 21, true))⟩,
      ⟨(opPick (some 26) (.tmp 21) (.tmp 25) (.const (Value.bool false)) 4 "ref.go:48" #[{ on := 3, ground := Ground.data }, { on := 7, ground := Ground.data }]).op, none⟩
    ] (by kernel_rfl)))
    (.cond (.tmp 26)
      (.seq (.live [4] (.region 7 [
        ⟨(opAssign (some 4) (.const (Value.bool false)) 4 "ref.go:49" #[]).op, none⟩
      ] (by kernel_rfl)))
      (.live [4] .ret))
      .skip)))
  (.live [0, 1, 5, 22, 23, 24, 25] (.region 5 [
    ⟨(opMove (some 16) (.tmp 5) 3 "ref.go:47" #[]).op, none⟩,
    ⟨(opBin (some 17) .add 3 (.tmp 16) (.const (Value.int IntKind.i64 1)) 3 3 "ref.go:47" #[{ on := 0, ground := Ground.data }]).op, none⟩,
    ⟨(opAssign (some 5) (.tmp 17) 3 "ref.go:47" #[{ on := 1, ground := Ground.data }, { on := 0, ground := Ground.phase }, { on := 1, ground := Ground.phase }]).op, none⟩
  ] (by kernel_rfl)))))

/-- What follows a loop. -/
noncomputable def f13_r0 : Sim Try.prog :=
  (.seq (.live [4] (.region 8 [
    ⟨(opAssign (some 4) (.const (Value.bool true)) 4 "ref.go:52" #[]).op, none⟩
  ] (by kernel_rfl)))
  (.live [4] .ret))

noncomputable def f13_b : Sim Try.prog :=
  (.seq (.live [0, 1, 10, 11, 12, 22, 23, 24, 25] (.region 0 [
    ⟨(opAssign (some 4) (.const (Value.bool false)) 4 "ref.go:43" #[]).op, none⟩
  ] (by kernel_rfl)))
  (.seq (.seq (.live [0, 1, 13, 22, 23, 24, 25] (.region 1 [
    ⟨(opMove (some 6) (.tmp 0) 3 "ref.go:44" #[]).op, none⟩,
    ⟨(opCallP p23 (some 7) [(.tmp 6)] #[3] 4 "ref.go:44" #[{ on := 0, ground := Ground.data }]).op, none⟩,
    ⟨(opNot (some 8) 4 (.tmp 7) 4 "ref.go:44" #[{ on := 1, ground := Ground.data }]).op, none⟩,
    ⟨(opMove (some 9) (.tmp 8) 4 "ref.go:44" #[{ on := 2, ground := Ground.data }, { on := 1, ground := Ground.chain }]).op, none⟩,
    ⟨(opMove (some 10) (.tmp 1) 3 "ref.go:44" #[{ on := 3, ground := Ground.guard }]).op, (some (3, 9, false))⟩,
    ⟨(opCallP p23 (some 11) [(.tmp 10)] #[3] 4 "ref.go:44" #[{ on := 4, ground := Ground.data }, { on := 3, ground := Ground.chain }, { on := 3, ground := Ground.guard }]).op, (some (3, 9, false))⟩,
    ⟨(opNot (some 12) 4 (.tmp 11) 4 "ref.go:44" #[{ on := 5, ground := Ground.data }, { on := 3, ground := Ground.guard }]).op, (some (3, 9, false))⟩,
    ⟨(opPick (some 13) (.tmp 9) (.const (Value.bool true)) (.tmp 12) 4 "ref.go:44" #[{ on := 3, ground := Ground.data }, { on := 6, ground := Ground.data }]).op, none⟩
  ] (by kernel_rfl)))
  (.cond (.tmp 13)
    (.seq (.live [4] (.region 2 [
      ⟨(opAssign (some 4) (.const (Value.bool false)) 4 "ref.go:45" #[]).op, none⟩
    ] (by kernel_rfl)))
    (.live [4] .ret))
    .skip))
  (.seq (.seq (.live [0, 1, 5, 22, 23, 24, 25] (.region 3 [
    ⟨(opAssign (some 5) (.const (Value.int IntKind.i64 1)) 3 "ref.go:47" #[]).op, none⟩
  ] (by kernel_rfl)))
  (.block 0 (.loop [0, 1, 5, 22, 23, 24, 25] f13_l0)))
  f13_r0)))

noncomputable def f13 : Fun Try.prog where
  id := 13
  fn := Try.f13
  hf := Try.func13
  hname := by kernel_rfl
  body := f13_b
  hbody := by kernel_rfl
  res := [rTmp 4]
  hres := by kernel_rfl
  n := 27
  hn := by kernel_rfl

end Go.Proofs.Ytfifiepbfnkelaa.V
