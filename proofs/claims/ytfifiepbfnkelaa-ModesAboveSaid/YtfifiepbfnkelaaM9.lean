/- The functions' pieces, as told by gen.py. -/
import Derived.Test.YtfifiepbfnkelaaM8
set_option linter.unusedVariables false
set_option maxRecDepth 20000
namespace Go.Proofs.Ytfifiepbfnkelaa.V
open Go Go.V Go.RowKit

noncomputable abbrev d27 : TypeDesc := (Try.prog.underlying 27).getD .bool
theorem ud27 : Try.prog.underlying 27 = some d27 := by kernel_rfl
theorem sz27 : (Try.prog.info? 27).map (·.size) = some 3 := by kernel_rfl
theorem ze27 : (Try.prog.info? 27).bind (·.zero) = some (.agg #[(.int .i64 0), (.string ⟨#[]⟩), (.string ⟨#[]⟩)]) := by kernel_rfl
theorem by27 : (Try.prog.info? 27).map (·.bytes) = some 40 := by kernel_rfl
theorem el28 : ElemOf Try.prog 28 27 3 40 (.agg #[(.int .i64 0), (.string ⟨#[]⟩), (.string ⟨#[]⟩)]) := ⟨Try.underlying28, sz27, by27, ze27, by kernel_rfl, by decide⟩

/-! ### 16: interlock/modes.Above (27); results 2; slots: 0 t, 1 t, 3 all -/
noncomputable def f16_b : Sim Try.prog :=
  (.seq (.live [1] (.region 0 [
    ⟨(opBoxF (some 1) 27 (.tmp 0) 0 "modes.go:83" #[]).op, none⟩,
    ⟨(opAssign (some 2) (.const (Value.slice none 0 0)) 28 "modes.go:83" #[]).op, none⟩
  ] (by kernel_rfl)))
  (.seq (.seq (.live [1, 6] (.region 1 [
    ⟨(opLoad (some 4) 27 (.tmp 1) d27 ud27 3 sz27 27 "modes.go:84" #[]).op, none⟩,
    ⟨(opCallP p18 (some 5) [(.tmp 4)] #[27] 4 "modes.go:84" #[{ on := 0, ground := Ground.data }]).op, none⟩,
    ⟨(opNot (some 6) 4 (.tmp 5) 4 "modes.go:84" #[{ on := 1, ground := Ground.data }]).op, none⟩
  ] (by kernel_rfl)))
  (.cond (.tmp 6)
    (.seq (.live [2] (.region 2 [
      ⟨(opAssign (some 2) (.const (Value.slice none 0 0)) 28 "modes.go:85" #[]).op, none⟩
    ] (by kernel_rfl)))
    (.live [2] .ret))
    .skip))
  (.seq (.live [1, 3] (.region 3 [
    ⟨(opBuild (some 7) 27 #[(.int .i64 0), (.string ⟨#[]⟩), (.string ⟨#[]⟩)] [(0, 0, 1, (.const (Value.int IntKind.i64 1)))] ze27 (by kernel_rfl) 27 "modes.go:87" #[]).op, none⟩,
    ⟨(opFieldAddr (some 8) 27 (.tmp 1) 1 1 1 false fl27_1 (by decide) 0 "modes.go:87" #[]).op, none⟩,
    ⟨(opLoad (some 9) 9 (.tmp 8) .string Try.underlying9 1 sz9 9 "modes.go:87" #[{ on := 1, ground := Ground.data }]).op, none⟩,
    ⟨(opBuild (some 10) 27 #[(.int .i64 0), (.string ⟨#[]⟩), (.string ⟨#[]⟩)] [(0, 0, 1, (.const (Value.int IntKind.i64 3))), (1, 1, 1, (.tmp 9))] ze27 (by kernel_rfl) 27 "modes.go:87" #[{ on := 2, ground := Ground.data }]).op, none⟩,
    ⟨(opBuildSlice (some 11) 28 2 [(0, (.tmp 7)), (1, (.tmp 10))] 27 3 40 (.agg #[(.int .i64 0), (.string ⟨#[]⟩), (.string ⟨#[]⟩)]) el28 (by kernel_rfl) (by decide) 28 "modes.go:87" #[{ on := 0, ground := Ground.data }, { on := 3, ground := Ground.data }]).op, none⟩,
    ⟨(opAssign (some 3) (.tmp 11) 28 "modes.go:87" #[{ on := 4, ground := Ground.data }, { on := 0, ground := Ground.phase }, { on := 1, ground := Ground.phase }, { on := 2, ground := Ground.phase }, { on := 3, ground := Ground.phase }, { on := 4, ground := Ground.phase }]).op, none⟩
  ] (by kernel_rfl)))
  (.seq (.seq (.live [3, 13] (.region 4 [
    ⟨(opFieldAddr (some 12) 27 (.tmp 1) 0 0 1 false fl27_0 (by decide) 0 "modes.go:88" #[]).op, none⟩,
    ⟨(opLoad (some 13) 3 (.tmp 12) (.int .i64) Try.underlying3 1 sz3 3 "modes.go:88" #[{ on := 0, ground := Ground.data }]).op, none⟩
  ] (by kernel_rfl)))
  (.block 0 (.seq (.live [3, 13, 14] (.region 5 [
      ⟨(opBin (some 15) .eql 3 (.tmp 13) (.const (Value.int IntKind.i64 3)) 3 4 "modes.go:89" #[]).op, none⟩,
      ⟨(opAssign (some 14) (.tmp 15) 4 "modes.go:89" #[{ on := 0, ground := Ground.data }]).op, none⟩
    ] (by kernel_rfl)))
    (.cond (.tmp 14)
      (.seq (.live [2] (.region 6 [
        ⟨(opMove (some 16) (.tmp 3) 28 "modes.go:90" #[]).op, none⟩,
        ⟨(opSlice (some 17) 28 (.tmp 16) none (some (.const (Value.int IntKind.i64 1))) (some (.const (Value.int IntKind.i64 1))) 27 3 Try.underlying28 sz27 28 "modes.go:90" #[{ on := 0, ground := Ground.data }]).op, none⟩,
        ⟨(opAssign (some 2) (.tmp 17) 28 "modes.go:90" #[{ on := 1, ground := Ground.data }, { on := 0, ground := Ground.phase }, { on := 1, ground := Ground.phase }]).op, none⟩
      ] (by kernel_rfl)))
      (.live [2] .ret))
      (.seq (.live [3, 18] (.region 7 [
        ⟨(opBin (some 19) .eql 3 (.tmp 13) (.const (Value.int IntKind.i64 4)) 3 4 "modes.go:91" #[]).op, none⟩,
        ⟨(opAssign (some 18) (.tmp 19) 4 "modes.go:91" #[{ on := 0, ground := Ground.data }]).op, none⟩
      ] (by kernel_rfl)))
      (.cond (.tmp 18)
        (.seq (.live [2] (.region 8 [
          ⟨(opMove (some 20) (.tmp 3) 28 "modes.go:92" #[]).op, none⟩,
          ⟨(opAssign (some 2) (.tmp 20) 28 "modes.go:92" #[{ on := 0, ground := Ground.data }, { on := 0, ground := Ground.phase }]).op, none⟩
        ] (by kernel_rfl)))
        (.live [2] .ret))
        .skip))))))
  (.seq (.live [2] (.region 9 [
    ⟨(opAssign (some 2) (.const (Value.slice none 0 0)) 28 "modes.go:94" #[]).op, none⟩
  ] (by kernel_rfl)))
  (.live [2] .ret))))))

noncomputable def f16 : Fun Try.prog where
  id := 16
  fn := Try.f16
  hf := Try.func16
  hname := by kernel_rfl
  body := f16_b
  hbody := by kernel_rfl
  res := [rTmp 2]
  hres := by kernel_rfl
  n := 21
  hn := by kernel_rfl

/-! ### 17: interlock/interlockref10.Above (27); results 2; slots: 0 t, 1 t, 3 out -/
noncomputable def f17_b : Sim Try.prog :=
  (.seq (.live [1] (.region 0 [
    ⟨(opBoxF (some 1) 27 (.tmp 0) 0 "ref.go:78" #[]).op, none⟩,
    ⟨(opAssign (some 2) (.const (Value.slice none 0 0)) 28 "ref.go:78" #[]).op, none⟩
  ] (by kernel_rfl)))
  (.seq (.seq (.live [1, 11] (.region 1 [
    ⟨(opLoad (some 4) 27 (.tmp 1) d27 ud27 3 sz27 27 "ref.go:79" #[]).op, none⟩,
    ⟨(opCallP p19 (some 5) [(.tmp 4)] #[27] 4 "ref.go:79" #[{ on := 0, ground := Ground.data }]).op, none⟩,
    ⟨(opNot (some 6) 4 (.tmp 5) 4 "ref.go:79" #[{ on := 1, ground := Ground.data }]).op, none⟩,
    ⟨(opMove (some 7) (.tmp 6) 4 "ref.go:79" #[{ on := 2, ground := Ground.data }, { on := 1, ground := Ground.chain }]).op, none⟩,
    ⟨(opFieldAddr (some 8) 27 (.tmp 1) 0 0 1 false fl27_0 (by decide) 0 "ref.go:79" #[{ on := 3, ground := Ground.guard }]).op, (some (3, 7, false))⟩,
    ⟨(opLoad (some 9) 3 (.tmp 8) (.int .i64) Try.underlying3 1 sz3 3 "ref.go:79" #[{ on := 4, ground := Ground.data }, { on := 3, ground := Ground.guard }]).op, (some (3, 7, false))⟩,
    ⟨(opBin (some 10) .lss 3 (.tmp 9) (.const (Value.int IntKind.i64 3)) 3 4 "ref.go:79" #[{ on := 5, ground := Ground.data }, { on := 3, ground := Ground.guard }]).op, (some (3, 7, false))⟩,
    ⟨(opPick (some 11) (.tmp 7) (.const (Value.bool true)) (.tmp 10) 4 "ref.go:79" #[{ on := 3, ground := Ground.data }, { on := 6, ground := Ground.data }]).op, none⟩
  ] (by kernel_rfl)))
  (.cond (.tmp 11)
    (.seq (.live [2] (.region 2 [
      ⟨(opAssign (some 2) (.const (Value.slice none 0 0)) 28 "ref.go:80" #[]).op, none⟩
    ] (by kernel_rfl)))
    (.live [2] .ret))
    .skip))
  (.seq (.live [1, 3] (.region 3 [
    ⟨(opBuild (some 12) 27 #[(.int .i64 0), (.string ⟨#[]⟩), (.string ⟨#[]⟩)] [(0, 0, 1, (.const (Value.int IntKind.i64 1)))] ze27 (by kernel_rfl) 27 "ref.go:82" #[]).op, none⟩,
    ⟨(opBuildSlice (some 13) 28 1 [(0, (.tmp 12))] 27 3 40 (.agg #[(.int .i64 0), (.string ⟨#[]⟩), (.string ⟨#[]⟩)]) el28 (by kernel_rfl) (by decide) 28 "ref.go:82" #[{ on := 0, ground := Ground.data }]).op, none⟩,
    ⟨(opAssign (some 3) (.tmp 13) 28 "ref.go:82" #[{ on := 1, ground := Ground.data }, { on := 0, ground := Ground.phase }, { on := 1, ground := Ground.phase }]).op, none⟩
  ] (by kernel_rfl)))
  (.seq (.seq (.live [1, 3, 16] (.region 4 [
    ⟨(opFieldAddr (some 14) 27 (.tmp 1) 0 0 1 false fl27_0 (by decide) 0 "ref.go:83" #[]).op, none⟩,
    ⟨(opLoad (some 15) 3 (.tmp 14) (.int .i64) Try.underlying3 1 sz3 3 "ref.go:83" #[{ on := 0, ground := Ground.data }]).op, none⟩,
    ⟨(opBin (some 16) .eql 3 (.tmp 15) (.const (Value.int IntKind.i64 4)) 3 4 "ref.go:83" #[{ on := 1, ground := Ground.data }]).op, none⟩
  ] (by kernel_rfl)))
  (.cond (.tmp 16)
    (.live [3] (.region 5 [
      ⟨(opMove (some 17) (.tmp 3) 28 "ref.go:84" #[]).op, none⟩,
      ⟨(opFieldAddr (some 18) 27 (.tmp 1) 1 1 1 false fl27_1 (by decide) 0 "ref.go:84" #[]).op, none⟩,
      ⟨(opLoad (some 19) 9 (.tmp 18) .string Try.underlying9 1 sz9 9 "ref.go:84" #[{ on := 1, ground := Ground.data }]).op, none⟩,
      ⟨(opBuild (some 20) 27 #[(.int .i64 0), (.string ⟨#[]⟩), (.string ⟨#[]⟩)] [(0, 0, 1, (.const (Value.int IntKind.i64 3))), (1, 1, 1, (.tmp 19))] ze27 (by kernel_rfl) 27 "ref.go:84" #[{ on := 2, ground := Ground.data }]).op, none⟩,
      ⟨(opBuildSlice (some 21) 28 1 [(0, (.tmp 20))] 27 3 40 (.agg #[(.int .i64 0), (.string ⟨#[]⟩), (.string ⟨#[]⟩)]) el28 (by kernel_rfl) (by decide) 28 "ref.go:84" #[{ on := 3, ground := Ground.data }]).op, none⟩,
      ⟨(opAppend (some 22) (.tmp 17) (.tmp 21) 28 28 27 3 40 (.agg #[(.int .i64 0), (.string ⟨#[]⟩), (.string ⟨#[]⟩)]) el28 (.slice 27) Try.underlying28 rfl 28 "ref.go:84" #[{ on := 0, ground := Ground.data }, { on := 4, ground := Ground.data }]).op, none⟩,
      ⟨(opAssign (some 3) (.tmp 22) 28 "ref.go:84" #[{ on := 5, ground := Ground.data }, { on := 5, ground := Ground.chain }, { on := 0, ground := Ground.phase }, { on := 1, ground := Ground.phase }, { on := 2, ground := Ground.phase }, { on := 3, ground := Ground.phase }, { on := 4, ground := Ground.phase }, { on := 5, ground := Ground.phase }]).op, none⟩
    ] (by kernel_rfl)))
    .skip))
  (.seq (.live [2] (.region 6 [
    ⟨(opMove (some 23) (.tmp 3) 28 "ref.go:86" #[]).op, none⟩,
    ⟨(opAssign (some 2) (.tmp 23) 28 "ref.go:86" #[{ on := 0, ground := Ground.data }, { on := 0, ground := Ground.phase }]).op, none⟩
  ] (by kernel_rfl)))
  (.live [2] .ret))))))

noncomputable def f17 : Fun Try.prog where
  id := 17
  fn := Try.f17
  hf := Try.func17
  hname := by kernel_rfl
  body := f17_b
  hbody := by kernel_rfl
  res := [rTmp 2]
  hres := by kernel_rfl
  n := 24
  hn := by kernel_rfl

end Go.Proofs.Ytfifiepbfnkelaa.V
