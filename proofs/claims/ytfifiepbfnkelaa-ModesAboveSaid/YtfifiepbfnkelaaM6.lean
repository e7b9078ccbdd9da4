/- The functions' pieces, as told by gen.py. -/
import Derived.Test.YtfifiepbfnkelaaM5
set_option linter.unusedVariables false
set_option maxRecDepth 20000
namespace Go.Proofs.Ytfifiepbfnkelaa.V
open Go Go.V Go.RowKit


/-! ### 14: interlock/modes.Join (3, 3); results 4; slots: 0 a, 1 b, 2 a, 3 b, 5 best, 6 m -/
/-- A loop's round; at its head live: 0 a, 1 b, 5 best, 7  -/
noncomputable def f14_l0 : Sim Try.prog :=
  (.seq (.live [0, 1, 5, 7, 8] (.region 3 [
    ⟨(opBin (some 8) .lss 3 (.tmp 7) (.const (Value.int IntKind.i64 9)) 3 4 "modes.go:60" #[]).op, none⟩
  ] (by kernel_rfl)))
  (.seq (.cond (.tmp 8)
    .skip
    (.live [5] (.exit 0)))
  (.seq (.block 1 (.seq (.live [0, 1, 5, 6, 7] (.region 4 [
      ⟨(opMove (some 9) (.tmp 7) 3 "modes.go:60" #[]).op, none⟩,
      ⟨(opAssign (some 6) (.tmp 9) 3 "modes.go:60" #[{ on := 0, ground := Ground.data }, { on := 0, ground := Ground.phase }]).op, none⟩
    ] (by kernel_rfl)))
    (.seq (.live [0, 1, 5, 6, 7, 28] (.region 5 [
      ⟨(opMove (some 10) (.tmp 6) 3 "modes.go:61" #[]).op, none⟩,
      ⟨(opMove (some 11) (.tmp 0) 3 "modes.go:61" #[]).op, none⟩,
      ⟨(opCallP p12 (some 12) [(.tmp 10), (.tmp 11)] #[3, 3] 4 "modes.go:61" #[{ on := 0, ground := Ground.data }, { on := 1, ground := Ground.data }]).op, none⟩,
      ⟨(opMove (some 13) (.tmp 12) 4 "modes.go:61" #[{ on := 2, ground := Ground.data }, { on := 2, ground := Ground.chain }]).op, none⟩,
      ⟨(opMove (some 14) (.tmp 6) 3 "modes.go:61" #[{ on := 3, ground := Ground.guard }]).op, (some (3, 13, true))⟩,
      ⟨(opMove (some 15) (.tmp 1) 3 "modes.go:61" #[{ on := 3, ground := Ground.guard }]).op, (some (3, 13, true))⟩,
      ⟨(opCallP p12 (some 16) [(.tmp 14), (.tmp 15)] #[3, 3] 4 "modes.go:61" #[{ on := 4, ground := Ground.data }, { on := 5, ground := Ground.data }, { on := 3, ground := Ground.chain }, { on := 3, ground := Ground.guard }]).op, (some (3, 13, true))⟩,
      ⟨(opPick (some 17) (.tmp 13) (.tmp 16) (.const (Value.bool false)) 4 "modes.go:61" #[{ on := 3, ground := Ground.data }, { on := 6, ground := Ground.data }]).op, none⟩,
      ⟨(opMove (some 18) (.tmp 17) 4 "modes.go:61" #[{ on := 7, ground := Ground.data }, { on := 6, ground := Ground.chain }]).op, none⟩,
      ⟨(opMove (some 19) (.tmp 5) 3 "modes.go:61" #[{ on := 8, ground := Ground.guard }]).op, (some (8, 18, true))⟩,
      ⟨(opBin (some 20) .eql 3 (.tmp 19) (.const (Value.int IntKind.i64 0)) 3 4 "modes.go:61" #[{ on := 9, ground := Ground.data }, { on := 8, ground := Ground.guard }]).op, (some (8, 18, true))⟩,
      ⟨(opMove (some 21) (.tmp 20) 4 "modes.go:61" #[{ on := 10, ground := Ground.data }, { on := 8, ground := Ground.chain }, { on := 8, ground := Ground.guard }]).op, (some (8, 18, true))⟩,
      ⟨(opMove (some 22) (.tmp 6) 3 "modes.go:61" #[{ on := 11, ground := Ground.guard }]).op, (some (11, 21, false))⟩,
      ⟨(opCallP p24 (some 23) [(.tmp 22)] #[3] 3 "modes.go:61" #[{ on := 12, ground := Ground.data }, { on := 11, ground := Ground.chain }, { on := 11, ground := Ground.guard }]).op, (some (11, 21, false))⟩,
      ⟨(opMove (some 24) (.tmp 5) 3 "modes.go:61" #[{ on := 11, ground := Ground.guard }]).op, (some (11, 21, false))⟩,
      ⟨(opCallP p24 (some 25) [(.tmp 24)] #[3] 3 "modes.go:61" #[{ on := 14, ground := Ground.data }, { on := 13, ground := Ground.chain }, { on := 11, ground := Ground.guard }]).op, (some (11, 21, false))⟩,
      ⟨(opBin (some 26) .lss 3 (.tmp 23) (.tmp 25) 3 4 "modes.go:61" #[{ on := 13, ground := Ground.data }, { on := 15, ground := Ground.data }, { on := 11, ground := Ground.guard }]).op, (some (11, 21, false))⟩,
      ⟨(opPick (some 27) (.tmp 21) (.const (Value.bool true)) (.tmp 26) 4 "modes.go:61" #[{ on := 11, ground := Ground.data }, { on := 16, ground := Ground.data }, { on := 8, ground := Ground.guard }]).op, (some (8, 18, true))⟩,
      ⟨(opPick (some 28) (.tmp 18) (.tmp 27) (.const (Value.bool false)) 4 "modes.go:61" #[{ on := 8, ground := Ground.data }, { on := 17, ground := Ground.data }]).op, none⟩
    ] (by kernel_rfl)))
    (.cond (.tmp 28)
      (.live [0, 1, 5, 7] (.region 6 [
        ⟨(opMove (some 29) (.tmp 6) 3 "modes.go:62" #[]).op, none⟩,
        ⟨(opAssign (some 5) (.tmp 29) 3 "modes.go:62" #[{ on := 0, ground := Ground.data }, { on := 0, ground := Ground.phase }]).op, none⟩
      ] (by kernel_rfl)))
      .skip))))
  (.live [0, 1, 5, 7] (.region 7 [
    ⟨(opBin (some 30) .add 3 (.tmp 7) (.const (Value.int IntKind.i64 1)) 3 3 "modes.go:60" #[]).op, none⟩,
    ⟨(opMove (some 7) (.tmp 30) 3 "modes.go:60" #[{ on := 0, ground := Ground.data }]).op, none⟩
  ] (by kernel_rfl))))))

/-- What follows a loop. -/
noncomputable def f14_r0 : Sim Try.prog :=
  (.seq (.live [4] (.region 8 [
    ⟨(opMove (some 31) (.tmp 5) 3 "modes.go:65" #[]).op, none⟩,
    ⟨(opAssign (some 4) (.tmp 31) 3 "modes.go:65" #[{ on := 0, ground := Ground.data }, { on := 0, ground := Ground.phase }]).op, none⟩
  ] (by kernel_rfl)))
  (.live [4] .ret))

noncomputable def f14_b : Sim Try.prog :=
  (.seq (.live [0, 1] (.region 0 [
    ⟨(opAssign (some 4) (.const (Value.int IntKind.i64 0)) 3 "modes.go:58" #[]).op, none⟩
  ] (by kernel_rfl)))
  (.seq (.live [0, 1, 5] (.region 1 [
    ⟨(opAssign (some 5) (.const (Value.int IntKind.i64 0)) 3 "modes.go:59" #[]).op, none⟩
  ] (by kernel_rfl)))
  (.seq (.seq (.live [0, 1, 5, 7] (.region 2 [
    ⟨(opMove (some 7) (.const (Value.int IntKind.i64 0)) 3 "modes.go:60" #[]).op, none⟩
  ] (by kernel_rfl)))
  (.block 0 (.loop [0, 1, 5, 7] f14_l0)))
  f14_r0)))

noncomputable def f14 : Fun Try.prog where
  id := 14
  fn := Try.f14
  hf := Try.func14
  hname := by kernel_rfl
  body := f14_b
  hbody := by kernel_rfl
  res := [rTmp 4]
  hres := by kernel_rfl
  n := 32
  hn := by kernel_rfl

/-! ### 15: interlock/interlockref10.Join (3, 3); results 4; slots: 0 a, 1 b, 2 a, 3 b, 5 best, 6 m -/
/-- A loop's round; at its head live: 0 a, 1 b, 5 best, 6 m -/
noncomputable def f15_l0 : Sim Try.prog :=
  (.seq (.seq (.live [0, 1, 5, 6, 8] (.region 3 [
    ⟨(opMove (some 7) (.tmp 6) 3 "ref.go:58" #[]).op, none⟩,
    ⟨(opBin (some 8) .leq 3 (.tmp 7) (.const (Value.int IntKind.i64 8)) 3 4 "ref.go:58" #[{ on := 0, ground := Ground.data }]).op, none⟩
  ] (by kernel_rfl)))
  (.cond (.tmp 8)
    .skip
    (.live [5] (.exit 0))))
  (.seq (.block 1 (.seq (.live [0, 1, 5, 6, 31] (.region 5 [
      ⟨(opMove (some 11) (.tmp 6) 3 "ref.go:59" #[]).op, none⟩,
      ⟨(opMove (some 12) (.tmp 0) 3 "ref.go:59" #[]).op, none⟩,
      ⟨(opCallP p13 (some 13) [(.tmp 11), (.tmp 12)] #[3, 3] 4 "ref.go:59" #[{ on := 0, ground := Ground.data }, { on := 1, ground := Ground.data }]).op, none⟩,
      ⟨(opMove (some 14) (.tmp 13) 4 "ref.go:59" #[{ on := 2, ground := Ground.data }, { on := 2, ground := Ground.chain }]).op, none⟩,
      ⟨(opMove (some 15) (.tmp 6) 3 "ref.go:59" #[{ on := 3, ground := Ground.guard }]).op, (some (3, 14, true))⟩,
      ⟨(opMove (some 16) (.tmp 1) 3 "ref.go:59" #[{ on := 3, ground := Ground.guard }]).op, (some (3, 14, true))⟩,
      ⟨(opCallP p13 (some 17) [(.tmp 15), (.tmp 16)] #[3, 3] 4 "ref.go:59" #[{ on := 4, ground := Ground.data }, { on := 5, ground := Ground.data }, { on := 3, ground := Ground.chain }, { on := 3, ground := Ground.guard }]).op, (some (3, 14, true))⟩,
      ⟨(opPick (some 18) (.tmp 14) (.tmp 17) (.const (Value.bool false)) 4 "ref.go:59" #[{ on := 3, ground := Ground.data }, { on := 6, ground := Ground.data }]).op, none⟩,
      ⟨(opMove (some 19) (.tmp 18) 4 "ref.go:59" #[{ on := 7, ground := Ground.data }, { on := 6, ground := Ground.chain }]).op, none⟩,
      ⟨(opMove (some 20) (.tmp 5) 3 "ref.go:59" #[{ on := 8, ground := Ground.guard }]).op, (some (8, 19, true))⟩,
      ⟨(opBin (some 21) .eql 3 (.tmp 20) (.const (Value.int IntKind.i64 0)) 3 4 "ref.go:59" #[{ on := 9, ground := Ground.data }, { on := 8, ground := Ground.guard }]).op, (some (8, 19, true))⟩,
      ⟨(opMove (some 22) (.tmp 21) 4 "ref.go:59" #[{ on := 10, ground := Ground.data }, { on := 8, ground := Ground.chain }, { on := 8, ground := Ground.guard }]).op, (some (8, 19, true))⟩,
      ⟨(opMove (some 23) (.tmp 6) 3 "ref.go:59" #[{ on := 11, ground := Ground.guard }]).op, (some (11, 22, false))⟩,
      ⟨(opCallP p22 (some 24) [(.tmp 23)] #[3] 36 "ref.go:59" #[{ on := 12, ground := Ground.data }, { on := 11, ground := Ground.chain }, { on := 11, ground := Ground.guard }]).op, (some (11, 22, false))⟩,
      ⟨(opLen (some 25) (.tmp 24) 36 (.slice 3) Try.underlying36 3 "ref.go:59" #[{ on := 13, ground := Ground.data }, { on := 11, ground := Ground.guard }]).op, (some (11, 22, false))⟩,
      ⟨(opMove (some 26) (.tmp 5) 3 "ref.go:59" #[{ on := 11, ground := Ground.guard }]).op, (some (11, 22, false))⟩,
      ⟨(opCallP p22 (some 27) [(.tmp 26)] #[3] 36 "ref.go:59" #[{ on := 15, ground := Ground.data }, { on := 13, ground := Ground.chain }, { on := 11, ground := Ground.guard }]).op, (some (11, 22, false))⟩,
      ⟨(opLen (some 28) (.tmp 27) 36 (.slice 3) Try.underlying36 3 "ref.go:59" #[{ on := 16, ground := Ground.data }, { on := 11, ground := Ground.guard }]).op, (some (11, 22, false))⟩,
      ⟨(opBin (some 29) .lss 3 (.tmp 25) (.tmp 28) 3 4 "ref.go:59" #[{ on := 14, ground := Ground.data }, { on := 17, ground := Ground.data }, { on := 11, ground := Ground.guard }]).op, (some (11, 22, false))⟩,
      ⟨(opPick (some 30) (.tmp 22) (.const (Value.bool true)) (.tmp 29) 4 "ref.go:59" #[{ on := 11, ground := Ground.data }, { on := 18, ground := Ground.data }, { on := 8, ground := Ground.guard }]).op, (some (8, 19, true))⟩,
      ⟨(opPick (some 31) (.tmp 19) (.tmp 30) (.const (Value.bool false)) 4 "ref.go:59" #[{ on := 8, ground := Ground.data }, { on := 19, ground := Ground.data }]).op, none⟩
    ] (by kernel_rfl)))
    (.cond (.tmp 31)
      (.live [0, 1, 5, 6] (.region 6 [
        ⟨(opMove (some 32) (.tmp 6) 3 "ref.go:60" #[]).op, none⟩,
        ⟨(opAssign (some 5) (.tmp 32) 3 "ref.go:60" #[{ on := 0, ground := Ground.data }, { on := 0, ground := Ground.phase }]).op, none⟩
      ] (by kernel_rfl)))
      .skip)))
  (.live [0, 1, 5, 6] (.region 4 [
    ⟨(opMove (some 9) (.tmp 6) 3 "ref.go:58" #[]).op, none⟩,
    ⟨(opBin (some 10) .add 3 (.tmp 9) (.const (Value.int IntKind.i64 1)) 3 3 "ref.go:58" #[{ on := 0, ground := Ground.data }]).op, none⟩,
    ⟨(opAssign (some 6) (.tmp 10) 3 "ref.go:58" #[{ on := 1, ground := Ground.data }, { on := 0, ground := Ground.phase }, { on := 1, ground := Ground.phase }]).op, none⟩
  ] (by kernel_rfl)))))

/-- What follows a loop. -/
noncomputable def f15_r0 : Sim Try.prog :=
  (.seq (.live [4] (.region 7 [
    ⟨(opMove (some 33) (.tmp 5) 3 "ref.go:63" #[]).op, none⟩,
    ⟨(opAssign (some 4) (.tmp 33) 3 "ref.go:63" #[{ on := 0, ground := Ground.data }, { on := 0, ground := Ground.phase }]).op, none⟩
  ] (by kernel_rfl)))
  (.live [4] .ret))

noncomputable def f15_b : Sim Try.prog :=
  (.seq (.live [0, 1] (.region 0 [
    ⟨(opAssign (some 4) (.const (Value.int IntKind.i64 0)) 3 "ref.go:56" #[]).op, none⟩
  ] (by kernel_rfl)))
  (.seq (.live [0, 1, 5] (.region 1 [
    ⟨(opAssign (some 5) (.const (Value.int IntKind.i64 0)) 3 "ref.go:57" #[]).op, none⟩
  ] (by kernel_rfl)))
  (.seq (.seq (.live [0, 1, 5, 6] (.region 2 [
    ⟨(opAssign (some 6) (.const (Value.int IntKind.i64 1)) 3 "ref.go:58" #[]).op, none⟩
  ] (by kernel_rfl)))
  (.block 0 (.loop [0, 1, 5, 6] f15_l0)))
  f15_r0)))

noncomputable def f15 : Fun Try.prog where
  id := 15
  fn := Try.f15
  hf := Try.func15
  hname := by kernel_rfl
  body := f15_b
  hbody := by kernel_rfl
  res := [rTmp 4]
  hres := by kernel_rfl
  n := 34
  hn := by kernel_rfl

end Go.Proofs.Ytfifiepbfnkelaa.V
