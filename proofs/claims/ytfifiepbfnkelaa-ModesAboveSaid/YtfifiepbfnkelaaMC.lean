/- The functions' pieces, as told by gen.py. -/
import Derived.Test.YtfifiepbfnkelaaMB
set_option linter.unusedVariables false
set_option maxRecDepth 20000
namespace Go.Proofs.Ytfifiepbfnkelaa.V
open Go Go.V Go.RowKit


/-! ### 8: interlock/interlocklaw10.alive (); results 0; slots: 1 l -/
noncomputable def f8_b : Sim Try.prog :=
  (.seq (.live [] (.region 0 [
    ⟨(opAssign (some 0) (.const (Value.bool false)) 4 "law.go:11" #[]).op, none⟩
  ] (by kernel_rfl)))
  (.seq (.live [1] (.region 1 [
    ⟨(opBuild (some 2) 27 #[(.int .i64 0), (.string ⟨#[]⟩), (.string ⟨#[]⟩)] [(0, 0, 1, (.const (Value.int IntKind.i64 4))), (1, 1, 1, (.const (Value.string { data := #[116] }))), (2, 2, 1, (.const (Value.string { data := #[107] })))] ze27 (by kernel_rfl) 27 "law.go:12" #[]).op, none⟩,
    ⟨(opCallP p16 (some 3) [(.tmp 2)] #[27] 28 "law.go:12" #[{ on := 0, ground := Ground.data }]).op, none⟩,
    ⟨(opAssign (some 1) (.tmp 3) 28 "law.go:12" #[{ on := 1, ground := Ground.data }, { on := 1, ground := Ground.chain }, { on := 0, ground := Ground.phase }, { on := 1, ground := Ground.phase }]).op, none⟩
  ] (by kernel_rfl)))
  (.seq (.live [0] (.region 2 [
    ⟨(opCallP p14 (some 4) [(.const (Value.int IntKind.i64 3)), (.const (Value.int IntKind.i64 2))] #[3, 3] 3 "law.go:13" #[]).op, none⟩,
    ⟨(opBin (some 5) .eql 3 (.tmp 4) (.const (Value.int IntKind.i64 5)) 3 4 "law.go:13" #[{ on := 0, ground := Ground.data }]).op, none⟩,
    ⟨(opMove (some 6) (.tmp 5) 4 "law.go:13" #[{ on := 1, ground := Ground.data }, { on := 0, ground := Ground.chain }]).op, none⟩,
    ⟨(opCallP p10 (some 7) [(.const (Value.int IntKind.i64 3)), (.const (Value.int IntKind.i64 2))] #[3, 3] 4 "law.go:13" #[{ on := 2, ground := Ground.chain }, { on := 2, ground := Ground.guard }]).op, (some (2, 6, true))⟩,
    ⟨(opPick (some 8) (.tmp 6) (.tmp 7) (.const (Value.bool false)) 4 "law.go:13" #[{ on := 2, ground := Ground.data }, { on := 3, ground := Ground.data }]).op, none⟩,
    ⟨(opMove (some 9) (.tmp 8) 4 "law.go:13" #[{ on := 4, ground := Ground.data }, { on := 3, ground := Ground.chain }]).op, none⟩,
    ⟨(opCallP p10 (some 10) [(.const (Value.int IntKind.i64 1)), (.const (Value.int IntKind.i64 2))] #[3, 3] 4 "law.go:13" #[{ on := 5, ground := Ground.chain }, { on := 5, ground := Ground.guard }]).op, (some (5, 9, true))⟩,
    ⟨(opNot (some 11) 4 (.tmp 10) 4 "law.go:13" #[{ on := 6, ground := Ground.data }, { on := 5, ground := Ground.guard }]).op, (some (5, 9, true))⟩,
    ⟨(opPick (some 12) (.tmp 9) (.tmp 11) (.const (Value.bool false)) 4 "law.go:13" #[{ on := 5, ground := Ground.data }, { on := 7, ground := Ground.data }]).op, none⟩,
    ⟨(opMove (some 13) (.tmp 12) 4 "law.go:13" #[{ on := 8, ground := Ground.data }, { on := 6, ground := Ground.chain }]).op, none⟩,
    ⟨(opCallP p9 (some 14) [(.const (Value.int IntKind.i64 8))] #[3] 4 "law.go:13" #[{ on := 9, ground := Ground.chain }, { on := 9, ground := Ground.guard }]).op, (some (9, 13, true))⟩,
    ⟨(opPick (some 15) (.tmp 13) (.tmp 14) (.const (Value.bool false)) 4 "law.go:13" #[{ on := 9, ground := Ground.data }, { on := 10, ground := Ground.data }]).op, none⟩,
    ⟨(opMove (some 16) (.tmp 15) 4 "law.go:13" #[{ on := 11, ground := Ground.data }, { on := 10, ground := Ground.chain }]).op, none⟩,
    ⟨(opMove (some 17) (.tmp 1) 28 "law.go:13" #[{ on := 12, ground := Ground.guard }]).op, (some (12, 16, true))⟩,
    ⟨(opLen (some 18) (.tmp 17) 28 (.slice 27) Try.underlying28 3 "law.go:13" #[{ on := 13, ground := Ground.data }, { on := 12, ground := Ground.guard }]).op, (some (12, 16, true))⟩,
    ⟨(opBin (some 19) .eql 3 (.tmp 18) (.const (Value.int IntKind.i64 2)) 3 4 "law.go:13" #[{ on := 14, ground := Ground.data }, { on := 12, ground := Ground.guard }]).op, (some (12, 16, true))⟩,
    ⟨(opPick (some 20) (.tmp 16) (.tmp 19) (.const (Value.bool false)) 4 "law.go:13" #[{ on := 12, ground := Ground.data }, { on := 15, ground := Ground.data }]).op, none⟩,
    ⟨(opMove (some 21) (.tmp 20) 4 "law.go:13" #[{ on := 16, ground := Ground.data }, { on := 12, ground := Ground.chain }]).op, none⟩,
    ⟨(opMove (some 22) (.tmp 1) 28 "law.go:13" #[{ on := 17, ground := Ground.guard }]).op, (some (17, 21, true))⟩,
    ⟨(opIndexAddr (some 23) 28 (.tmp 22) (.const (Value.int IntKind.i64 1)) 27 3 Try.underlying28 sz27 0 "law.go:13" #[{ on := 18, ground := Ground.data }, { on := 17, ground := Ground.guard }]).op, (some (17, 21, true))⟩,
    ⟨(opFieldAddr (some 24) 27 (.tmp 23) 1 1 1 false fl27_1 (by decide) 0 "law.go:13" #[{ on := 19, ground := Ground.data }, { on := 17, ground := Ground.guard }]).op, (some (17, 21, true))⟩,
    ⟨(opLoad (some 25) 9 (.tmp 24) .string Try.underlying9 1 sz9 9 "law.go:13" #[{ on := 20, ground := Ground.data }, { on := 17, ground := Ground.guard }]).op, (some (17, 21, true))⟩,
    ⟨(opBin (some 26) .eql 9 (.tmp 25) (.const (Value.string { data := #[116] })) 9 4 "law.go:13" #[{ on := 21, ground := Ground.data }, { on := 17, ground := Ground.guard }]).op, (some (17, 21, true))⟩,
    ⟨(opPick (some 27) (.tmp 21) (.tmp 26) (.const (Value.bool false)) 4 "law.go:13" #[{ on := 17, ground := Ground.data }, { on := 22, ground := Ground.data }]).op, none⟩,
    ⟨(opAssign (some 0) (.tmp 27) 4 "law.go:13" #[{ on := 23, ground := Ground.data }, { on := 17, ground := Ground.chain }, { on := 0, ground := Ground.phase }, { on := 1, ground := Ground.phase }, { on := 2, ground := Ground.phase }, { on := 3, ground := Ground.phase }, { on := 4, ground := Ground.phase }, { on := 5, ground := Ground.phase }, { on := 6, ground := Ground.phase }, { on := 7, ground := Ground.phase }, { on := 8, ground := Ground.phase }, { on := 9, ground := Ground.phase }, { on := 10, ground := Ground.phase }, { on := 11, ground := Ground.phase }, { on := 12, ground := Ground.phase }, { on := 13, ground := Ground.phase }, { on := 14, ground := Ground.phase }, { on := 15, ground := Ground.phase }, { on := 16, ground := Ground.phase }, { on := 17, ground := Ground.phase }, { on := 18, ground := Ground.phase }, { on := 19, ground := Ground.phase }, { on := 20, ground := Ground.phase }, { on := 21, ground := Ground.phase }, { on := 22, ground := Ground.phase }, { on := 23, ground := Ground.phase }]).op, none⟩
  ] (by kernel_rfl)))
  (.live [0] .ret))))

noncomputable def f8 : Fun Try.prog where
  id := 8
  fn := Try.f8
  hf := Try.func8
  hname := by kernel_rfl
  body := f8_b
  hbody := by kernel_rfl
  res := [rTmp 0]
  hres := by kernel_rfl
  n := 28
  hn := by kernel_rfl

end Go.Proofs.Ytfifiepbfnkelaa.V
