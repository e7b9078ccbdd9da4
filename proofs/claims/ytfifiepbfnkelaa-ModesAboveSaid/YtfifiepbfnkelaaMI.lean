/- The functions' pieces, as told by gen.py. -/
import Derived.Test.YtfifiepbfnkelaaME
set_option linter.unusedVariables false
set_option maxRecDepth 20000
namespace Go.Proofs.Ytfifiepbfnkelaa.V
open Go Go.V Go.RowKit

theorem eq27 : eqFlatB Try.prog 27 [(0, 0), (1, 2), (2, 2)] = true := by kernel_rfl

/-! ### 4: interlock/interlocklaw10.ModesThings (27); results 2; slots: 0 t, 1 t, 3 a, 4 b, 5 i -/
/-- A loop's round; at its head live: 3 a, 4 b, 5 i -/
noncomputable def f4_l0 : Sim Try.prog :=
  (.seq (.seq (.live [3, 4, 5, 27] (.region 8 [
    ⟨(opMove (some 24) (.tmp 5) 3 "law.go:34" #[]).op, none⟩,
    ⟨(opMove (some 25) (.tmp 3) 28 "law.go:34" #[]).op, none⟩,
    ⟨(opLen (some 26) (.tmp 25) 28 (.slice 27) Try.underlying28 3 "law.go:34" #[{ on := 1, ground := Ground.data }]).op, none⟩,
    ⟨(opBin (some 27) .lss 3 (.tmp 24) (.tmp 26) 3 4 "law.go:34" #[{ on := 0, ground := Ground.data }, { on := 2, ground := Ground.data }]).op, none⟩
  ] (by kernel_rfl)))
  (.cond (.tmp 27)
    .skip
    (.live [] (.exit 0))))
  (.seq (.block 1 (.seq (.live [3, 4, 5, 38] (.draw 10 [
      ⟨.p (opMove (some 30) (.tmp 3) 28 "law.go:35" #[]), none⟩,
      ⟨.p (opMove (some 31) (.tmp 5) 3 "law.go:35" #[]), none⟩,
      ⟨.p (opIndexAddr (some 32) 28 (.tmp 30) (.tmp 31) 27 3 Try.underlying28 sz27 0 "law.go:35" #[{ on := 0, ground := Ground.data }, { on := 1, ground := Ground.data }]), none⟩,
      ⟨.q (opLoad (some 33) 27 (.tmp 32) d27 ud27 3 sz27 27 "law.go:35" #[{ on := 2, ground := Ground.data }]), none⟩,
      ⟨.p (opMove (some 34) (.tmp 4) 28 "law.go:35" #[]), none⟩,
      ⟨.p (opMove (some 35) (.tmp 5) 3 "law.go:35" #[]), none⟩,
      ⟨.p (opIndexAddr (some 36) 28 (.tmp 34) (.tmp 35) 27 3 Try.underlying28 sz27 0 "law.go:35" #[{ on := 4, ground := Ground.data }, { on := 5, ground := Ground.data }]), none⟩,
      ⟨.q (opLoad (some 37) 27 (.tmp 36) d27 ud27 3 sz27 27 "law.go:35" #[{ on := 6, ground := Ground.data }]), none⟩,
      ⟨.p (opNeS (some 38) 27 [(0, 0), (1, 2), (2, 2)] eq27 (.tmp 33) (.tmp 37) 27 4 "law.go:35" #[{ on := 3, ground := Ground.data }, { on := 7, ground := Ground.data }]), none⟩
    ] mixed (by kernel_rfl)))
    (.cond (.tmp 38)
      (.seq (.live [2] (.region 11 [
        ⟨(opAssign (some 2) (.const (Value.bool false)) 4 "law.go:36" #[]).op, none⟩
      ] (by kernel_rfl)))
      (.live [2] .ret))
      .skip)))
  (.live [3, 4, 5] (.region 9 [
    ⟨(opMove (some 28) (.tmp 5) 3 "law.go:34" #[]).op, none⟩,
    ⟨(opBin (some 29) .add 3 (.tmp 28) (.const (Value.int IntKind.i64 1)) 3 3 "law.go:34" #[{ on := 0, ground := Ground.data }]).op, none⟩,
    ⟨(opAssign (some 5) (.tmp 29) 3 "law.go:34" #[{ on := 1, ground := Ground.data }, { on := 0, ground := Ground.phase }, { on := 1, ground := Ground.phase }]).op, none⟩
  ] (by kernel_rfl)))))

/-- What follows a loop. -/
noncomputable def f4_r0 : Sim Try.prog :=
  (.seq (.live [2] (.region 12 [
    ⟨(opAssign (some 2) (.const (Value.bool true)) 4 "law.go:39" #[]).op, none⟩
  ] (by kernel_rfl)))
  (.live [2] .ret))

noncomputable def f4_b : Sim Try.prog :=
  (.seq (.live [1] (.region 0 [
    ⟨(opBoxF (some 1) 27 (.tmp 0) 0 "law.go:25" #[]).op, none⟩,
    ⟨(opAssign (some 2) (.const (Value.bool false)) 4 "law.go:25" #[]).op, none⟩
  ] (by kernel_rfl)))
  (.seq (.seq (.live [1, 7] (.region 1 [
    ⟨(opCallP p8 (some 6) [] #[] 4 "law.go:26" #[]).op, none⟩,
    ⟨(opNot (some 7) 4 (.tmp 6) 4 "law.go:26" #[{ on := 0, ground := Ground.data }]).op, none⟩
  ] (by kernel_rfl)))
  (.cond (.tmp 7)
    (.seq (.live [2] (.region 2 [
      ⟨(opAssign (some 2) (.const (Value.bool false)) 4 "law.go:27" #[]).op, none⟩
    ] (by kernel_rfl)))
    (.live [2] .ret))
    .skip))
  (.seq (.live [1, 3] (.region 3 [
    ⟨(opLoad (some 8) 27 (.tmp 1) d27 ud27 3 sz27 27 "law.go:29" #[]).op, none⟩,
    ⟨opCall (f16.orc 0) (some 9) [(.tmp 8)] #[27] 28 "law.go:29" #[{ on := 0, ground := Ground.data }], none⟩,
    ⟨(opAssign (some 3) (.tmp 9) 28 "law.go:29" #[{ on := 1, ground := Ground.data }, { on := 1, ground := Ground.chain }, { on := 0, ground := Ground.phase }, { on := 1, ground := Ground.phase }]).op, none⟩
  ] (by kernel_rfl)))
  (.seq (.live [1, 3, 4] (.region 4 [
    ⟨(opLoad (some 10) 27 (.tmp 1) d27 ud27 3 sz27 27 "law.go:30" #[]).op, none⟩,
    ⟨opCall (f17.orc 0) (some 11) [(.tmp 10)] #[27] 28 "law.go:30" #[{ on := 0, ground := Ground.data }], none⟩,
    ⟨(opAssign (some 4) (.tmp 11) 28 "law.go:30" #[{ on := 1, ground := Ground.data }, { on := 1, ground := Ground.chain }, { on := 0, ground := Ground.phase }, { on := 1, ground := Ground.phase }]).op, none⟩
  ] (by kernel_rfl)))
  (.seq (.seq (.live [3, 4, 23] (.draw 5 [
    ⟨.q (opLoad (some 12) 27 (.tmp 1) d27 ud27 3 sz27 27 "law.go:31" #[]), none⟩,
    ⟨.p (opCallP p18 (some 13) [(.tmp 12)] #[27] 4 "law.go:31" #[{ on := 0, ground := Ground.data }]), none⟩,
    ⟨.q (opLoad (some 14) 27 (.tmp 1) d27 ud27 3 sz27 27 "law.go:31" #[]), none⟩,
    ⟨.p (opCallP p19 (some 15) [(.tmp 14)] #[27] 4 "law.go:31" #[{ on := 2, ground := Ground.data }, { on := 1, ground := Ground.chain }]), none⟩,
    ⟨.p (opNe (some 16) 4 .bool Try.underlying4 (.tmp 13) (.tmp 15) (.inr rfl) 4 4 "law.go:31" #[{ on := 1, ground := Ground.data }, { on := 3, ground := Ground.data }]), none⟩,
    ⟨.p (opMove (some 17) (.tmp 16) 4 "law.go:31" #[{ on := 4, ground := Ground.data }, { on := 3, ground := Ground.chain }]), none⟩,
    ⟨.p (opMove (some 18) (.tmp 3) 28 "law.go:31" #[{ on := 5, ground := Ground.guard }]), (some (5, 17, false))⟩,
    ⟨.p (opLen (some 19) (.tmp 18) 28 (.slice 27) Try.underlying28 3 "law.go:31" #[{ on := 6, ground := Ground.data }, { on := 5, ground := Ground.guard }]), (some (5, 17, false))⟩,
    ⟨.p (opMove (some 20) (.tmp 4) 28 "law.go:31" #[{ on := 5, ground := Ground.guard }]), (some (5, 17, false))⟩,
    ⟨.p (opLen (some 21) (.tmp 20) 28 (.slice 27) Try.underlying28 3 "law.go:31" #[{ on := 8, ground := Ground.data }, { on := 5, ground := Ground.guard }]), (some (5, 17, false))⟩,
    ⟨.p (opBin (some 22) .neq 3 (.tmp 19) (.tmp 21) 3 4 "law.go:31" #[{ on := 7, ground := Ground.data }, { on := 9, ground := Ground.data }, { on := 5, ground := Ground.guard }]), (some (5, 17, false))⟩,
    ⟨.p (opPick (some 23) (.tmp 17) (.const (Value.bool true)) (.tmp 22) 4 "law.go:31" #[{ on := 5, ground := Ground.data }, { on := 10, ground := Ground.data }]), none⟩
  ] mixed (by kernel_rfl)))
  (.cond (.tmp 23)
    (.seq (.live [2] (.region 6 [
      ⟨(opAssign (some 2) (.const (Value.bool false)) 4 "law.go:32" #[]).op, none⟩
    ] (by kernel_rfl)))
    (.live [2] .ret))
    .skip))
  (.seq (.seq (.live [3, 4, 5] (.region 7 [
    ⟨(opAssign (some 5) (.const (Value.int IntKind.i64 0)) 3 "law.go:34" #[]).op, none⟩
  ] (by kernel_rfl)))
  (.block 0 (.loop [3, 4, 5] f4_l0)))
  f4_r0))))))

noncomputable def f4 : Fun Try.prog where
  id := 4
  fn := Try.f4
  hf := Try.func4
  hname := by kernel_rfl
  body := f4_b
  hbody := by kernel_rfl
  res := [rTmp 2]
  hres := by kernel_rfl
  n := 39
  hn := by kernel_rfl

/-! ### 7: interlock/interlocklaw10.ModesAbove (27); results 2; slots: 0 t, 1 t, 3 l, 4 i, 5 up, 6 k -/
/-- A loop's round; at its head live: 1 t, 3 l, 4 i, 5 up, 6 k -/
noncomputable def f7_l1 : Sim Try.prog :=
  (.seq (.seq (.live [1, 3, 4, 5, 6, 63] (.region 13 [
    ⟨(opMove (some 60) (.tmp 6) 3 "law.go:100" #[]).op, none⟩,
    ⟨(opMove (some 61) (.tmp 5) 28 "law.go:100" #[]).op, none⟩,
    ⟨(opLen (some 62) (.tmp 61) 28 (.slice 27) Try.underlying28 3 "law.go:100" #[{ on := 1, ground := Ground.data }]).op, none⟩,
    ⟨(opBin (some 63) .lss 3 (.tmp 60) (.tmp 62) 3 4 "law.go:100" #[{ on := 0, ground := Ground.data }, { on := 2, ground := Ground.data }]).op, none⟩
  ] (by kernel_rfl)))
  (.cond (.tmp 63)
    .skip
    (.live [1, 3, 4] (.exit 2))))
  (.seq (.block 3 (.seq (.live [1, 3, 4, 5, 6, 74] (.draw 15 [
      ⟨.p (opMove (some 66) (.tmp 5) 28 "law.go:101" #[]), none⟩,
      ⟨.p (opMove (some 67) (.tmp 6) 3 "law.go:101" #[]), none⟩,
      ⟨.p (opIndexAddr (some 68) 28 (.tmp 66) (.tmp 67) 27 3 Try.underlying28 sz27 0 "law.go:101" #[{ on := 0, ground := Ground.data }, { on := 1, ground := Ground.data }]), none⟩,
      ⟨.q (opLoad (some 69) 27 (.tmp 68) d27 ud27 3 sz27 27 "law.go:101" #[{ on := 2, ground := Ground.data }]), none⟩,
      ⟨.p (opMove (some 70) (.tmp 3) 28 "law.go:101" #[]), none⟩,
      ⟨.p (opMove (some 71) (.tmp 6) 3 "law.go:101" #[]), none⟩,
      ⟨.p (opIndexAddr (some 72) 28 (.tmp 70) (.tmp 71) 27 3 Try.underlying28 sz27 0 "law.go:101" #[{ on := 4, ground := Ground.data }, { on := 5, ground := Ground.data }]), none⟩,
      ⟨.q (opLoad (some 73) 27 (.tmp 72) d27 ud27 3 sz27 27 "law.go:101" #[{ on := 6, ground := Ground.data }]), none⟩,
      ⟨.p (opNeS (some 74) 27 [(0, 0), (1, 2), (2, 2)] eq27 (.tmp 69) (.tmp 73) 27 4 "law.go:101" #[{ on := 3, ground := Ground.data }, { on := 7, ground := Ground.data }]), none⟩
    ] mixed (by kernel_rfl)))
    (.cond (.tmp 74)
      (.seq (.live [2] (.region 16 [
        ⟨(opAssign (some 2) (.const (Value.bool false)) 4 "law.go:102" #[]).op, none⟩
      ] (by kernel_rfl)))
      (.live [2] .ret))
      .skip)))
  (.live [1, 3, 4, 5, 6] (.region 14 [
    ⟨(opMove (some 64) (.tmp 6) 3 "law.go:100" #[]).op, none⟩,
    ⟨(opBin (some 65) .add 3 (.tmp 64) (.const (Value.int IntKind.i64 1)) 3 3 "law.go:100" #[{ on := 0, ground := Ground.data }]).op, none⟩,
    ⟨(opAssign (some 6) (.tmp 65) 3 "law.go:100" #[{ on := 1, ground := Ground.data }, { on := 0, ground := Ground.phase }, { on := 1, ground := Ground.phase }]).op, none⟩
  ] (by kernel_rfl)))))

/-- What follows a loop. -/
noncomputable def f7_r0 : Sim Try.prog :=
  (.live [1, 3, 4] (.region 6 [
    ⟨(opMove (some 15) (.tmp 4) 3 "law.go:92" #[]).op, none⟩,
    ⟨(opBin (some 16) .add 3 (.tmp 15) (.const (Value.int IntKind.i64 1)) 3 3 "law.go:92" #[{ on := 0, ground := Ground.data }]).op, none⟩,
    ⟨(opAssign (some 4) (.tmp 16) 3 "law.go:92" #[{ on := 1, ground := Ground.data }, { on := 0, ground := Ground.phase }, { on := 1, ground := Ground.phase }]).op, none⟩
  ] (by kernel_rfl)))

/-- A loop's round; at its head live: 1 t, 3 l, 4 i -/
noncomputable def f7_l0 : Sim Try.prog :=
  (.seq (.seq (.live [1, 3, 4, 14] (.region 5 [
    ⟨(opMove (some 11) (.tmp 4) 3 "law.go:92" #[]).op, none⟩,
    ⟨(opMove (some 12) (.tmp 3) 28 "law.go:92" #[]).op, none⟩,
    ⟨(opLen (some 13) (.tmp 12) 28 (.slice 27) Try.underlying28 3 "law.go:92" #[{ on := 1, ground := Ground.data }]).op, none⟩,
    ⟨(opBin (some 14) .lss 3 (.tmp 11) (.tmp 13) 3 4 "law.go:92" #[{ on := 0, ground := Ground.data }, { on := 2, ground := Ground.data }]).op, none⟩
  ] (by kernel_rfl)))
  (.cond (.tmp 14)
    .skip
    (.live [1, 3] (.exit 0))))
  (.seq (.block 1 (.seq (.seq (.live [1, 3, 4, 50] (.draw 7 [
      ⟨.p (opMove (some 17) (.tmp 3) 28 "law.go:93" #[]), none⟩,
      ⟨.p (opMove (some 18) (.tmp 4) 3 "law.go:93" #[]), none⟩,
      ⟨.p (opIndexAddr (some 19) 28 (.tmp 17) (.tmp 18) 27 3 Try.underlying28 sz27 0 "law.go:93" #[{ on := 0, ground := Ground.data }, { on := 1, ground := Ground.data }]), none⟩,
      ⟨.q (opLoad (some 20) 27 (.tmp 19) d27 ud27 3 sz27 27 "law.go:93" #[{ on := 2, ground := Ground.data }]), none⟩,
      ⟨.p (opCallP p18 (some 21) [(.tmp 20)] #[27] 4 "law.go:93" #[{ on := 3, ground := Ground.data }]), none⟩,
      ⟨.p (opNot (some 22) 4 (.tmp 21) 4 "law.go:93" #[{ on := 4, ground := Ground.data }]), none⟩,
      ⟨.p (opMove (some 23) (.tmp 22) 4 "law.go:93" #[{ on := 5, ground := Ground.data }, { on := 4, ground := Ground.chain }]), none⟩,
      ⟨.p (opMove (some 24) (.tmp 3) 28 "law.go:93" #[{ on := 6, ground := Ground.guard }]), (some (6, 23, false))⟩,
      ⟨.p (opMove (some 25) (.tmp 4) 3 "law.go:93" #[{ on := 6, ground := Ground.guard }]), (some (6, 23, false))⟩,
      ⟨.p (opIndexAddr (some 26) 28 (.tmp 24) (.tmp 25) 27 3 Try.underlying28 sz27 0 "law.go:93" #[{ on := 7, ground := Ground.data }, { on := 8, ground := Ground.data }, { on := 6, ground := Ground.guard }]), (some (6, 23, false))⟩,
      ⟨.p (opFieldAddr (some 27) 27 (.tmp 26) 0 0 1 false fl27_0 (by decide) 0 "law.go:93" #[{ on := 9, ground := Ground.data }, { on := 6, ground := Ground.guard }]), (some (6, 23, false))⟩,
      ⟨.q (opLoad (some 28) 3 (.tmp 27) (.int .i64) Try.underlying3 1 sz3 3 "law.go:93" #[{ on := 10, ground := Ground.data }, { on := 6, ground := Ground.guard }]), (some (6, 23, false))⟩,
      ⟨.p (opFieldAddr (some 29) 27 (.tmp 1) 0 0 1 false fl27_0 (by decide) 0 "law.go:93" #[{ on := 6, ground := Ground.guard }]), (some (6, 23, false))⟩,
      ⟨.q (opLoad (some 30) 3 (.tmp 29) (.int .i64) Try.underlying3 1 sz3 3 "law.go:93" #[{ on := 12, ground := Ground.data }, { on := 6, ground := Ground.guard }]), (some (6, 23, false))⟩,
      ⟨.p (opBin (some 31) .geq 3 (.tmp 28) (.tmp 30) 3 4 "law.go:93" #[{ on := 11, ground := Ground.data }, { on := 13, ground := Ground.data }, { on := 6, ground := Ground.guard }]), (some (6, 23, false))⟩,
      ⟨.p (opPick (some 32) (.tmp 23) (.const (Value.bool true)) (.tmp 31) 4 "law.go:93" #[{ on := 6, ground := Ground.data }, { on := 14, ground := Ground.data }]), none⟩,
      ⟨.p (opMove (some 33) (.tmp 32) 4 "law.go:93" #[{ on := 15, ground := Ground.data }, { on := 6, ground := Ground.chain }]), none⟩,
      ⟨.p (opMove (some 34) (.tmp 4) 3 "law.go:93" #[{ on := 16, ground := Ground.guard }]), (some (16, 33, false))⟩,
      ⟨.p (opBin (some 35) .gtr 3 (.tmp 34) (.const (Value.int IntKind.i64 0)) 3 4 "law.go:93" #[{ on := 17, ground := Ground.data }, { on := 16, ground := Ground.guard }]), (some (16, 33, false))⟩,
      ⟨.p (opMove (some 36) (.tmp 35) 4 "law.go:93" #[{ on := 18, ground := Ground.data }, { on := 16, ground := Ground.chain }, { on := 16, ground := Ground.guard }]), (some (16, 33, false))⟩,
      ⟨.p (opMove (some 37) (.tmp 3) 28 "law.go:93" #[{ on := 19, ground := Ground.guard }]), (some (19, 36, true))⟩,
      ⟨.p (opMove (some 38) (.tmp 4) 3 "law.go:93" #[{ on := 19, ground := Ground.guard }]), (some (19, 36, true))⟩,
      ⟨.p (opIndexAddr (some 39) 28 (.tmp 37) (.tmp 38) 27 3 Try.underlying28 sz27 0 "law.go:93" #[{ on := 20, ground := Ground.data }, { on := 21, ground := Ground.data }, { on := 19, ground := Ground.guard }]), (some (19, 36, true))⟩,
      ⟨.p (opFieldAddr (some 40) 27 (.tmp 39) 0 0 1 false fl27_0 (by decide) 0 "law.go:93" #[{ on := 22, ground := Ground.data }, { on := 19, ground := Ground.guard }]), (some (19, 36, true))⟩,
      ⟨.q (opLoad (some 41) 3 (.tmp 40) (.int .i64) Try.underlying3 1 sz3 3 "law.go:93" #[{ on := 23, ground := Ground.data }, { on := 19, ground := Ground.guard }]), (some (19, 36, true))⟩,
      ⟨.p (opMove (some 42) (.tmp 3) 28 "law.go:93" #[{ on := 19, ground := Ground.guard }]), (some (19, 36, true))⟩,
      ⟨.p (opMove (some 43) (.tmp 4) 3 "law.go:93" #[{ on := 19, ground := Ground.guard }]), (some (19, 36, true))⟩,
      ⟨.p (opBin (some 44) .sub 3 (.tmp 43) (.const (Value.int IntKind.i64 1)) 3 3 "law.go:93" #[{ on := 26, ground := Ground.data }, { on := 19, ground := Ground.guard }]), (some (19, 36, true))⟩,
      ⟨.p (opIndexAddr (some 45) 28 (.tmp 42) (.tmp 44) 27 3 Try.underlying28 sz27 0 "law.go:93" #[{ on := 25, ground := Ground.data }, { on := 27, ground := Ground.data }, { on := 19, ground := Ground.guard }]), (some (19, 36, true))⟩,
      ⟨.p (opFieldAddr (some 46) 27 (.tmp 45) 0 0 1 false fl27_0 (by decide) 0 "law.go:93" #[{ on := 28, ground := Ground.data }, { on := 19, ground := Ground.guard }]), (some (19, 36, true))⟩,
      ⟨.q (opLoad (some 47) 3 (.tmp 46) (.int .i64) Try.underlying3 1 sz3 3 "law.go:93" #[{ on := 29, ground := Ground.data }, { on := 19, ground := Ground.guard }]), (some (19, 36, true))⟩,
      ⟨.p (opBin (some 48) .leq 3 (.tmp 41) (.tmp 47) 3 4 "law.go:93" #[{ on := 24, ground := Ground.data }, { on := 30, ground := Ground.data }, { on := 19, ground := Ground.guard }]), (some (19, 36, true))⟩,
      ⟨.p (opPick (some 49) (.tmp 36) (.tmp 48) (.const (Value.bool false)) 4 "law.go:93" #[{ on := 19, ground := Ground.data }, { on := 31, ground := Ground.data }, { on := 16, ground := Ground.guard }]), (some (16, 33, false))⟩,
      ⟨.p (opPick (some 50) (.tmp 33) (.const (Value.bool true)) (.tmp 49) 4 "law.go:93" #[{ on := 16, ground := Ground.data }, { on := 32, ground := Ground.data }]), none⟩
    ] mixed (by kernel_rfl)))
    (.cond (.tmp 50)
      (.seq (.live [2] (.region 8 [
        ⟨(opAssign (some 2) (.const (Value.bool false)) 4 "law.go:94" #[]).op, none⟩
      ] (by kernel_rfl)))
      (.live [2] .ret))
      .skip))
    (.seq (.live [1, 3, 4, 5] (.region 9 [
      ⟨(opMove (some 51) (.tmp 3) 28 "law.go:96" #[]).op, none⟩,
      ⟨(opMove (some 52) (.tmp 4) 3 "law.go:96" #[]).op, none⟩,
      ⟨(opIndexAddr (some 53) 28 (.tmp 51) (.tmp 52) 27 3 Try.underlying28 sz27 0 "law.go:96" #[{ on := 0, ground := Ground.data }, { on := 1, ground := Ground.data }]).op, none⟩,
      ⟨(opLoad (some 54) 27 (.tmp 53) d27 ud27 3 sz27 27 "law.go:96" #[{ on := 2, ground := Ground.data }]).op, none⟩,
      ⟨opCall (f16.orc 0) (some 55) [(.tmp 54)] #[27] 28 "law.go:96" #[{ on := 3, ground := Ground.data }], none⟩,
      ⟨(opAssign (some 5) (.tmp 55) 28 "law.go:96" #[{ on := 4, ground := Ground.data }, { on := 4, ground := Ground.chain }, { on := 0, ground := Ground.phase }, { on := 1, ground := Ground.phase }, { on := 2, ground := Ground.phase }, { on := 3, ground := Ground.phase }, { on := 4, ground := Ground.phase }]).op, none⟩
    ] (by kernel_rfl)))
    (.seq (.seq (.live [1, 3, 4, 5, 59] (.region 10 [
      ⟨(opMove (some 56) (.tmp 5) 28 "law.go:97" #[]).op, none⟩,
      ⟨(opLen (some 57) (.tmp 56) 28 (.slice 27) Try.underlying28 3 "law.go:97" #[{ on := 0, ground := Ground.data }]).op, none⟩,
      ⟨(opMove (some 58) (.tmp 4) 3 "law.go:97" #[]).op, none⟩,
      ⟨(opBin (some 59) .neq 3 (.tmp 57) (.tmp 58) 3 4 "law.go:97" #[{ on := 1, ground := Ground.data }, { on := 2, ground := Ground.data }]).op, none⟩
    ] (by kernel_rfl)))
    (.cond (.tmp 59)
      (.seq (.live [2] (.region 11 [
        ⟨(opAssign (some 2) (.const (Value.bool false)) 4 "law.go:98" #[]).op, none⟩
      ] (by kernel_rfl)))
      (.live [2] .ret))
      .skip))
    (.seq (.live [1, 3, 4, 5, 6] (.region 12 [
      ⟨(opAssign (some 6) (.const (Value.int IntKind.i64 0)) 3 "law.go:100" #[]).op, none⟩
    ] (by kernel_rfl)))
    (.block 2 (.loop [1, 3, 4, 5, 6] f7_l1)))))))
  f7_r0))

/-- What follows a loop. -/
noncomputable def f7_r1 : Sim Try.prog :=
  (.seq (.live [2] (.region 17 [
    ⟨(opLoad (some 75) 27 (.tmp 1) d27 ud27 3 sz27 27 "law.go:106" #[]).op, none⟩,
    ⟨(opCallP p18 (some 76) [(.tmp 75)] #[27] 4 "law.go:106" #[{ on := 0, ground := Ground.data }]).op, none⟩,
    ⟨(opMove (some 77) (.tmp 76) 4 "law.go:106" #[{ on := 1, ground := Ground.data }, { on := 1, ground := Ground.chain }]).op, none⟩,
    ⟨(opMove (some 78) (.tmp 3) 28 "law.go:106" #[{ on := 2, ground := Ground.guard }]).op, (some (2, 77, false))⟩,
    ⟨(opLen (some 79) (.tmp 78) 28 (.slice 27) Try.underlying28 3 "law.go:106" #[{ on := 3, ground := Ground.data }, { on := 2, ground := Ground.guard }]).op, (some (2, 77, false))⟩,
    ⟨(opBin (some 80) .eql 3 (.tmp 79) (.const (Value.int IntKind.i64 0)) 3 4 "law.go:106" #[{ on := 4, ground := Ground.data }, { on := 2, ground := Ground.guard }]).op, (some (2, 77, false))⟩,
    ⟨(opPick (some 81) (.tmp 77) (.const (Value.bool true)) (.tmp 80) 4 "law.go:106" #[{ on := 2, ground := Ground.data }, { on := 5, ground := Ground.data }]).op, none⟩,
    ⟨(opAssign (some 2) (.tmp 81) 4 "law.go:106" #[{ on := 6, ground := Ground.data }, { on := 2, ground := Ground.chain }, { on := 0, ground := Ground.phase }, { on := 1, ground := Ground.phase }, { on := 2, ground := Ground.phase }, { on := 3, ground := Ground.phase }, { on := 4, ground := Ground.phase }, { on := 5, ground := Ground.phase }, { on := 6, ground := Ground.phase }]).op, none⟩
  ] (by kernel_rfl)))
  (.live [2] .ret))

noncomputable def f7_b : Sim Try.prog :=
  (.seq (.live [1] (.region 0 [
    ⟨(opBoxF (some 1) 27 (.tmp 0) 0 "law.go:87" #[]).op, none⟩,
    ⟨(opAssign (some 2) (.const (Value.bool false)) 4 "law.go:87" #[]).op, none⟩
  ] (by kernel_rfl)))
  (.seq (.seq (.live [1, 8] (.region 1 [
    ⟨(opCallP p8 (some 7) [] #[] 4 "law.go:88" #[]).op, none⟩,
    ⟨(opNot (some 8) 4 (.tmp 7) 4 "law.go:88" #[{ on := 0, ground := Ground.data }]).op, none⟩
  ] (by kernel_rfl)))
  (.cond (.tmp 8)
    (.seq (.live [2] (.region 2 [
      ⟨(opAssign (some 2) (.const (Value.bool false)) 4 "law.go:89" #[]).op, none⟩
    ] (by kernel_rfl)))
    (.live [2] .ret))
    .skip))
  (.seq (.live [1, 3] (.region 3 [
    ⟨(opLoad (some 9) 27 (.tmp 1) d27 ud27 3 sz27 27 "law.go:91" #[]).op, none⟩,
    ⟨opCall (f16.orc 0) (some 10) [(.tmp 9)] #[27] 28 "law.go:91" #[{ on := 0, ground := Ground.data }], none⟩,
    ⟨(opAssign (some 3) (.tmp 10) 28 "law.go:91" #[{ on := 1, ground := Ground.data }, { on := 1, ground := Ground.chain }, { on := 0, ground := Ground.phase }, { on := 1, ground := Ground.phase }]).op, none⟩
  ] (by kernel_rfl)))
  (.seq (.seq (.live [1, 3, 4] (.region 4 [
    ⟨(opAssign (some 4) (.const (Value.int IntKind.i64 0)) 3 "law.go:92" #[]).op, none⟩
  ] (by kernel_rfl)))
  (.block 0 (.loop [1, 3, 4] f7_l0)))
  f7_r1))))

noncomputable def f7 : Fun Try.prog where
  id := 7
  fn := Try.f7
  hf := Try.func7
  hname := by kernel_rfl
  body := f7_b
  hbody := by kernel_rfl
  res := [rTmp 2]
  hres := by kernel_rfl
  n := 82
  hn := by kernel_rfl

end Go.Proofs.Ytfifiepbfnkelaa.V
