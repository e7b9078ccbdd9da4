/- The functions' pieces, as told by gen.py. -/
import Derived.Test.YtjdpfblmhahfkaaBH
set_option linter.unusedVariables false
set_option maxRecDepth 20000
namespace Go.Proofs.Ytjdpfblmhahfkaa.V
open Go Go.V Go.RowKit


/-! ### 22: interlock/interlockref00.SameTexts (33, 33); results 4; slots: 0 a, 1 b, 2 a, 3 b, 5 i -/
/-- A loop's round; at its head live: 0 a, 1 b, 5 i -/
noncomputable def f22_l0 : Sim Try.prog :=
  (.seq (.seq (.live [0, 1, 5, 14] (.region 4 [
    ⟨(opMove (some 11) (.tmp 5) 3 "ref.go:92" #[]).op, none⟩,
    ⟨(opMove (some 12) (.tmp 0) 33 "ref.go:92" #[]).op, none⟩,
    ⟨(opLen (some 13) (.tmp 12) 33 (.slice 9) Try.underlying33 3 "ref.go:92" #[{ on := 1, ground := Ground.data }]).op, none⟩,
    ⟨(opBin (some 14) .lss 3 (.tmp 11) (.tmp 13) 3 4 "ref.go:92" #[{ on := 0, ground := Ground.data }, { on := 2, ground := Ground.data }]).op, none⟩
  ] (by kernel_rfl)))
  (.cond (.tmp 14)
    .skip
    (.live [] (.exit 0))))
  (.seq (.block 1 (.seq (.live [0, 1, 5, 25] (.draw 6 [
      ⟨.p (opMove (some 17) (.tmp 0) 33 "ref.go:93" #[]), none⟩,
      ⟨.p (opMove (some 18) (.tmp 5) 3 "ref.go:93" #[]), none⟩,
      ⟨.pn (opIndexAddr (some 19) 33 (.tmp 17) (.tmp 18) 9 1 Try.underlying33 sz9 0 "ref.go:93" #[{ on := 0, ground := Ground.data }, { on := 1, ground := Ground.data }]) opIndexAddr_nat, none⟩,
      ⟨.qn (opLoad (some 20) 9 (.tmp 19) .string Try.underlying9 1 sz9 9 "ref.go:93" #[{ on := 2, ground := Ground.data }]) opLoad_nat, none⟩,
      ⟨.p (opMove (some 21) (.tmp 1) 33 "ref.go:93" #[]), none⟩,
      ⟨.p (opMove (some 22) (.tmp 5) 3 "ref.go:93" #[]), none⟩,
      ⟨.pn (opIndexAddr (some 23) 33 (.tmp 21) (.tmp 22) 9 1 Try.underlying33 sz9 0 "ref.go:93" #[{ on := 4, ground := Ground.data }, { on := 5, ground := Ground.data }]) opIndexAddr_nat, none⟩,
      ⟨.qn (opLoad (some 24) 9 (.tmp 23) .string Try.underlying9 1 sz9 9 "ref.go:93" #[{ on := 6, ground := Ground.data }]) opLoad_nat, none⟩,
      ⟨.pn (opBinS (some 25) .neq 9 (.tmp 20) (.tmp 24) 9 4 "ref.go:93" #[{ on := 3, ground := Ground.data }, { on := 7, ground := Ground.data }]) opBinS_nat, none⟩
    ] mixed (by kernel_rfl)))
    (.cond (.tmp 25)
      (.seq (.live [4] (.region 7 [
        ⟨(opAssign (some 4) (.const (Value.bool false)) 4 "ref.go:94" #[]).op, none⟩
      ] (by kernel_rfl)))
      (.live [4] .ret))
      .skip)))
  (.live [0, 1, 5] (.region 5 [
    ⟨(opMove (some 15) (.tmp 5) 3 "ref.go:92" #[]).op, none⟩,
    ⟨(opBin (some 16) .add 3 (.tmp 15) (.const (Value.int IntKind.i64 1)) 3 3 "ref.go:92" #[{ on := 0, ground := Ground.data }]).op, none⟩,
    ⟨(opAssign (some 5) (.tmp 16) 3 "ref.go:92" #[{ on := 1, ground := Ground.data }, { on := 0, ground := Ground.phase }, { on := 1, ground := Ground.phase }]).op, none⟩
  ] (by kernel_rfl)))))

/-- What follows a loop. -/
noncomputable def f22_r0 : Sim Try.prog :=
  (.seq (.live [4] (.region 8 [
    ⟨(opAssign (some 4) (.const (Value.bool true)) 4 "ref.go:97" #[]).op, none⟩
  ] (by kernel_rfl)))
  (.live [4] .ret))

noncomputable def f22_b : Sim Try.prog :=
  (.seq (.live [0, 1] (.region 0 [
    ⟨(opAssign (some 4) (.const (Value.bool false)) 4 "ref.go:88" #[]).op, none⟩
  ] (by kernel_rfl)))
  (.seq (.seq (.live [0, 1, 10] (.region 1 [
    ⟨(opMove (some 6) (.tmp 0) 33 "ref.go:89" #[]).op, none⟩,
    ⟨(opLen (some 7) (.tmp 6) 33 (.slice 9) Try.underlying33 3 "ref.go:89" #[{ on := 0, ground := Ground.data }]).op, none⟩,
    ⟨(opMove (some 8) (.tmp 1) 33 "ref.go:89" #[]).op, none⟩,
    ⟨(opLen (some 9) (.tmp 8) 33 (.slice 9) Try.underlying33 3 "ref.go:89" #[{ on := 2, ground := Ground.data }]).op, none⟩,
    ⟨(opBin (some 10) .neq 3 (.tmp 7) (.tmp 9) 3 4 "ref.go:89" #[{ on := 1, ground := Ground.data }, { on := 3, ground := Ground.data }]).op, none⟩
  ] (by kernel_rfl)))
  (.cond (.tmp 10)
    (.seq (.live [4] (.region 2 [
      ⟨(opAssign (some 4) (.const (Value.bool false)) 4 "ref.go:90" #[]).op, none⟩
    ] (by kernel_rfl)))
    (.live [4] .ret))
    .skip))
  (.seq (.seq (.live [0, 1, 5] (.region 3 [
    ⟨(opAssign (some 5) (.const (Value.int IntKind.i64 0)) 3 "ref.go:92" #[]).op, none⟩
  ] (by kernel_rfl)))
  (.block 0 (.loop [0, 1, 5] f22_l0)))
  f22_r0)))

noncomputable def f22 : Fun Try.prog where
  id := 22
  fn := Try.f22
  hf := Try.func22
  hname := by kernel_rfl
  body := f22_b
  hbody := by kernel_rfl
  res := [rTmp 4]
  hres := by kernel_rfl
  n := 26
  hn := by kernel_rfl

end Go.Proofs.Ytjdpfblmhahfkaa.V
